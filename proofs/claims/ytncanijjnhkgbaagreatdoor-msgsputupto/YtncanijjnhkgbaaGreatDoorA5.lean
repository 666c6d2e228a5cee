/- A part of the proof of the law MsgsPut, put together by a program of this seat's prover (wip/pack.py): its own texts, what a changed copy of the kit's printer (wip/mkprint.py) printed. No condition. -/
import Derived.Test.YtncanijjnhkgbaaGreatDoorA2
import Derived.Test.YtncanijjnhkgbaaGreatDoorA3
import Derived.Test.YtncanijjnhkgbaaGreatDoorA4
set_option linter.unusedVariables false
set_option linter.unusedSimpArgs false
namespace Go.Proofs.YtncanijjnhkgbaaGreatDoor.PMsgsPut
open Go.RowKit Go.Proofs.YtncanijjnhkgbaaGreatDoorW.PrintWords Go.Proofs.YtncanijjnhkgbaaGreatDoorW.PrintLast Go.Proofs.YtncanijjnhkgbaaGreatDoorW.PrintMore
attribute [local go_sem] max2_int min2_int max_two min_two max_three min_three max_four min_four
set_option linter.unusedVariables false
set_option linter.unusedSimpArgs false
noncomputable def warderref09_Int.f (k : Nat) (a0 : Int) : Option (Int × List Int × (List (S44))) := (warderref02_PutInt.f k a0).bind fun t577 => (some (2, t577, ([] : List (S44))))
set_option maxHeartbeats 8000000 in
set_option maxRecDepth 100000 in
theorem warderref09_Int.calls (k : Nat) (a0 : Int) (r1 : Int) (r2 : List Int) (r3 : List (S44)) (w : World) (h : warderref09_Int.f k a0 = some (r1, r2, r3)) :
  Calls Tryz.prog 35 #[.int .i64 a0] w fun e w' => ∃ v1_ v2_ : Value, e = .returned (.agg #[.int .u8 r1, v1_, v2_]) ∧ Kd.R (Kd.int .u8) 5 w' w.heap.size (fun _ => True) v1_ r2 ∧ Kd.R k44 44 w' w.heap.size (fun k_ => some k_ ≠ (v1_ : Value).ownBlock) v2_ r3 ∧ Below w.heap.size w w' := by
 have hu44 := Tryz.underlying44
 have HB := Aside0.mk (Below.refl w.heap.size w)
 have H : ((warderref02_PutInt.f k a0).bind fun t577 => (some (2, t577, ([] : List (S44))))) = some (r1, r2, r3) := h
 clear h
 replace H := Option.bind_eq_some_iff.mp H
 obtain ⟨t577, A20, H⟩ := H
 replace H : (some (2, t577, ([] : List (S44)))) = some (r1, r2, r3) := H
 have A2 := Aside0.mk A20
 clear A20
 simp only [Option.some.injEq, Prod.mk.injEq] at H
 obtain ⟨rfl, rfl, rfl⟩ := H
 go_enter Tryz.func35, Tryz.ntmps35
 go_wp2_with (first | ((with_reducible refine gate_dst (N := 2) rfl ?_); refine box_event ?hg (N := 2) ?hd (cs := #[.int .u8 0, .slice none 0 0, .slice none 0 0]) (t := 44) ?hr ?_; (case hd => rfl); (case hg => rfl); (case hr => first | (go_simp; done) | (go_simp; rfl)); intro gb576 hg w3 hbox hb; have n0_ := Aside0.mk (below_step (by repeat (first | (with_reducible first | exact HB.out | apply below_alloc | apply pw_below_drewN | apply below_drew1) | exact HB.out)) hb); have n1_ := Aside0.mk (hbox); have n2_ := Aside0.mk ((by rw [hg]; exact (below_size (by repeat (first | (with_reducible first | exact HB.out | apply below_alloc | apply pw_below_drewN | apply below_drew1) | exact HB.out))) : w.heap.size ≤ gb576)); have n3_ := Aside0.mk ((by rw [hg]; exact (below_size (by repeat (first | (with_reducible first | exact HB.out | apply below_alloc | apply pw_below_drewN | apply below_drew1) | exact HB.out))) : w.heap.size ≤ gb576)); clear HB; have HB := n0_; have BK576 := n1_; have GW576 := n2_; have GE576 := n3_; clear n0_ n1_ n2_ n3_; clear hb hbox hg) | ((with_reducible refine gate_callee (f := 66) rfl ?_); refine goesL_ (some 4) rfl rfl Tryz.func66 (by kernel_rfl) rfl #[.int .i64 a0] rfl (by (try simp only [List.map_toArray, List.map_cons, List.map_nil]); first | done | rfl | (simp only [List.length_drop, List.length_take]; rfl)) ?_; (with_reducible refine (warderref02_PutInt.calls k a0 t577 _ A2.out).mono ?_); rintro e w4 ⟨v578, rfl, ho0, hb⟩; refine ⟨_, rfl, ?_⟩; have n0_ := Aside0.mk (Kd.R_lower ho0 (below_size (by repeat (first | (with_reducible first | exact HB.out | apply below_alloc | apply pw_below_drewN | apply below_drew1 | refine below_set ?_ GE576.out) | exact HB.out)))); have n1_ := Aside0.mk (blk_below (g := gb576) (o := .cells #[.int .u8 0, .slice none 0 0, .slice none 0 0] 44 (0, 0)) (by (with_reducible repeat (first | refine blk_drewN ?_ _ | refine blk_drew ?_ | refine blk_alloc ?_ _)); exact BK576.out) hb); have n2_ := Aside0.mk (below_step (by repeat (first | (with_reducible first | exact HB.out | apply below_alloc | apply pw_below_drewN | apply below_drew1 | refine below_set ?_ GE576.out) | exact HB.out)) hb); clear BK576; clear HB; have HO579 := n0_; have BK576 := n1_; have HB := n2_; clear n0_ n1_ n2_; (try clear hb); (try clear hb2); (try clear hk); (try clear hi); (try clear ho0); obtain ⟨Ao5, co5, eo5⟩ := Kd.R_slice HO579.out; subst eo5; have hcz6_0 : w4.cell? ⟨gb576, 0, none⟩ = some (.int .u8 0) := (blk_cell BK576.out 0).trans rfl; have hcz6_1 : w4.cell? ⟨gb576, 1, none⟩ = some (.slice none 0 0) := (blk_cell BK576.out 1).trans rfl; have hcz6_2 : w4.cell? ⟨gb576, 2, none⟩ = some (.slice none 0 0) := (blk_cell BK576.out 2).trans rfl; have hfz6_0 := blk_frozen BK576.out 0; have hfz6_1 := blk_frozen BK576.out 1; have hfz6_2 := blk_frozen BK576.out 2))
 refine bodyPost_ret (results_cell_row rfl _ _ gb576 44 #[.int .u8 2, .slice Ao5 t577.length co5, .slice none 0 0] (0, 0) _ rfl (by (with_reducible repeat (first | refine blk_drewN ?_ _ | refine blk_drew ?_ | refine blk_alloc ?_ _)); refine blk_put (cs := #[.int .u8 2, .slice Ao5 t577.length co5, .slice none 0 0]) ?_ 2 _ rfl; (with_reducible repeat (first | refine blk_drewN ?_ _ | refine blk_drew ?_ | refine blk_alloc ?_ _)); refine blk_put (cs := #[.int .u8 2, .slice none 0 0, .slice none 0 0]) ?_ 1 _ rfl; (with_reducible repeat (first | refine blk_drewN ?_ _ | refine blk_drew ?_ | refine blk_alloc ?_ _)); refine blk_put (cs := #[.int .u8 0, .slice none 0 0, .slice none 0 0]) ?_ 0 _ rfl; (with_reducible repeat (first | refine blk_drewN ?_ _ | refine blk_drew ?_ | refine blk_alloc ?_ _)); exact BK576.out) Tryz.underlying44 rfl (by kernel_rfl)) rfl ?_
 exact ⟨_, _, by first | rfl | (simp [errW_none, errW_some] <;> rfl) | (simp [*, errW_none, errW_some] <;> rfl), by (with_reducible repeat (first | apply Kd.R_alloc | apply Kd.R_drewN | apply Kd.R_drew)); exact Kd.R_mono (Kd.R_far (p := ⟨gb576, 2, none⟩) (Kd.R_far (p := ⟨gb576, 1, none⟩) (Kd.R_far (p := ⟨gb576, 0, none⟩) (Kd.R_types HO579.out BK576.out (by decide)) (fun _ hk => hk.2) (.int .u8 2)) (fun _ hk => hk.2) (.slice Ao5 t577.length co5)) (fun _ hk => hk.2) (.slice none 0 0)) (fun _ hk => trivial), by first | exact Kd.R_nil _ _ _ _ _ | exact Kd.N_nil _ _ _ _ _ | exact Kd.V_nil _ _ _ _ _ | exact Kd.Q_nil _ _ _ _ _ | exact Kd.S_nil _ _ _ _ _, by repeat (first | (with_reducible first | exact HB.out | apply below_alloc | apply pw_below_drewN | apply below_drew1 | refine below_set ?_ GE576.out) | exact HB.out)⟩
noncomputable def warderref04_tag.f (a0 : Int) : Option (Int) := if (Go.bits .and .u8 a0 31) = 31 then (some 11) else (if a0 ≥ 64 then (some 0) else (if a0 = 1 then (some 0) else (if a0 = 2 then (some 0) else (if a0 = 3 then (some 0) else (if a0 = 4 then (some 0) else (if a0 = 5 then (some 0) else (if a0 = 6 then (some 0) else (if a0 = 12 then (some 0) else (if a0 = 19 then (some 0) else (if a0 = 22 then (some 0) else (if a0 = 23 then (some 0) else (if a0 = 24 then (some 0) else (if a0 = 27 then (some 0) else (if a0 = 48 then (some 0) else (if a0 = 49 then (some 0) else (some 43))))))))))))))))
set_option maxHeartbeats 8000000 in
set_option maxRecDepth 100000 in
theorem warderref04_tag.calls (a0 : Int) (r : Int) (w : World) (h : warderref04_tag.f a0 = some r) :
  Calls Tryz.prog 67 #[.int .u8 a0] w fun e w' => e = .returned (.int .i64 r) ∧ Drawn0 w w' := by
 have H : (if (Go.bits .and .u8 a0 31) = 31 then (some 11) else (if a0 ≥ 64 then (some 0) else (if a0 = 1 then (some 0) else (if a0 = 2 then (some 0) else (if a0 = 3 then (some 0) else (if a0 = 4 then (some 0) else (if a0 = 5 then (some 0) else (if a0 = 6 then (some 0) else (if a0 = 12 then (some 0) else (if a0 = 19 then (some 0) else (if a0 = 22 then (some 0) else (if a0 = 23 then (some 0) else (if a0 = 24 then (some 0) else (if a0 = 27 then (some 0) else (if a0 = 48 then (some 0) else (if a0 = 49 then (some 0) else (some 43))))))))))))))))) = some r := h
 clear h
 by_cases c2 : (Go.bits .and .u8 a0 31) = 31
 ·rw [if_pos c2] at H
  have c2b0 : ((Go.bits .and .u8 a0 31) == 31) = true := beq_iff_eq.mpr c2
  have c2b1 : ((Go.bits .and .u8 a0 31) != 31) = false := bne_eq_false_iff_eq.mpr c2
  clear c2
  obtain rfl := Option.some.inj H
  go_enter Tryz.func67, Tryz.ntmps67
  go_wp2
  go_ret
  exact ⟨by first | rfl | (simp; done) | (simp [*]; done), by repeat (first | exact Drawn0.refl _ | apply Drawn0.step)⟩
 ·rw [if_neg c2] at H
  have c2b0 : ((Go.bits .and .u8 a0 31) == 31) = false := beq_eq_false_iff_ne.mpr c2
  have c2b1 : ((Go.bits .and .u8 a0 31) != 31) = true := bne_iff_ne.mpr c2
  by_cases c3 : a0 ≥ 64
  ·rw [if_pos c3] at H
   have c3b0 : decide (64 ≤ a0) = true := decide_eq_true c3
   clear c3
   obtain rfl := Option.some.inj H
   go_enter Tryz.func67, Tryz.ntmps67
   go_wp2
   go_ret
   exact ⟨by first | rfl | (simp; done) | (simp [*]; done), by repeat (first | exact Drawn0.refl _ | apply Drawn0.step)⟩
  ·rw [if_neg c3] at H
   have c3b0 : decide (64 ≤ a0) = false := decide_eq_false c3
   clear c3
   by_cases c4 : a0 = 1
   ·rw [if_pos c4] at H
    have c4b0 : (a0 == 1) = true := beq_iff_eq.mpr c4
    have c4b1 : (a0 != 1) = false := bne_eq_false_iff_eq.mpr c4
    clear c4
    obtain rfl := Option.some.inj H
    go_enter Tryz.func67, Tryz.ntmps67
    go_wp2
    go_ret
    exact ⟨by first | rfl | (simp; done) | (simp [*]; done), by repeat (first | exact Drawn0.refl _ | apply Drawn0.step)⟩
   ·rw [if_neg c4] at H
    have c4b0 : (a0 == 1) = false := beq_eq_false_iff_ne.mpr c4
    have c4b1 : (a0 != 1) = true := bne_iff_ne.mpr c4
    by_cases c5 : a0 = 2
    ·rw [if_pos c5] at H
     have c5b0 : (a0 == 2) = true := beq_iff_eq.mpr c5
     have c5b1 : (a0 != 2) = false := bne_eq_false_iff_eq.mpr c5
     clear c5
     obtain rfl := Option.some.inj H
     go_enter Tryz.func67, Tryz.ntmps67
     go_wp2
     go_ret
     exact ⟨by first | rfl | (simp; done) | (simp [*]; done), by repeat (first | exact Drawn0.refl _ | apply Drawn0.step)⟩
    ·rw [if_neg c5] at H
     have c5b0 : (a0 == 2) = false := beq_eq_false_iff_ne.mpr c5
     have c5b1 : (a0 != 2) = true := bne_iff_ne.mpr c5
     by_cases c6 : a0 = 3
     ·rw [if_pos c6] at H
      have c6b0 : (a0 == 3) = true := beq_iff_eq.mpr c6
      have c6b1 : (a0 != 3) = false := bne_eq_false_iff_eq.mpr c6
      clear c6
      obtain rfl := Option.some.inj H
      go_enter Tryz.func67, Tryz.ntmps67
      go_wp2
      go_ret
      exact ⟨by first | rfl | (simp; done) | (simp [*]; done), by repeat (first | exact Drawn0.refl _ | apply Drawn0.step)⟩
     ·rw [if_neg c6] at H
      have c6b0 : (a0 == 3) = false := beq_eq_false_iff_ne.mpr c6
      have c6b1 : (a0 != 3) = true := bne_iff_ne.mpr c6
      by_cases c7 : a0 = 4
      ·rw [if_pos c7] at H
       have c7b0 : (a0 == 4) = true := beq_iff_eq.mpr c7
       have c7b1 : (a0 != 4) = false := bne_eq_false_iff_eq.mpr c7
       clear c7
       obtain rfl := Option.some.inj H
       go_enter Tryz.func67, Tryz.ntmps67
       go_wp2
       go_ret
       exact ⟨by first | rfl | (simp; done) | (simp [*]; done), by repeat (first | exact Drawn0.refl _ | apply Drawn0.step)⟩
      ·rw [if_neg c7] at H
       have c7b0 : (a0 == 4) = false := beq_eq_false_iff_ne.mpr c7
       have c7b1 : (a0 != 4) = true := bne_iff_ne.mpr c7
       by_cases c8 : a0 = 5
       ·rw [if_pos c8] at H
        have c8b0 : (a0 == 5) = true := beq_iff_eq.mpr c8
        have c8b1 : (a0 != 5) = false := bne_eq_false_iff_eq.mpr c8
        clear c8
        obtain rfl := Option.some.inj H
        go_enter Tryz.func67, Tryz.ntmps67
        go_wp2
        go_ret
        exact ⟨by first | rfl | (simp; done) | (simp [*]; done), by repeat (first | exact Drawn0.refl _ | apply Drawn0.step)⟩
       ·rw [if_neg c8] at H
        have c8b0 : (a0 == 5) = false := beq_eq_false_iff_ne.mpr c8
        have c8b1 : (a0 != 5) = true := bne_iff_ne.mpr c8
        by_cases c9 : a0 = 6
        ·rw [if_pos c9] at H
         have c9b0 : (a0 == 6) = true := beq_iff_eq.mpr c9
         have c9b1 : (a0 != 6) = false := bne_eq_false_iff_eq.mpr c9
         clear c9
         obtain rfl := Option.some.inj H
         go_enter Tryz.func67, Tryz.ntmps67
         go_wp2
         go_ret
         exact ⟨by first | rfl | (simp; done) | (simp [*]; done), by repeat (first | exact Drawn0.refl _ | apply Drawn0.step)⟩
        ·rw [if_neg c9] at H
         have c9b0 : (a0 == 6) = false := beq_eq_false_iff_ne.mpr c9
         have c9b1 : (a0 != 6) = true := bne_iff_ne.mpr c9
         by_cases c10 : a0 = 12
         ·rw [if_pos c10] at H
          have c10b0 : (a0 == 12) = true := beq_iff_eq.mpr c10
          have c10b1 : (a0 != 12) = false := bne_eq_false_iff_eq.mpr c10
          clear c10
          obtain rfl := Option.some.inj H
          go_enter Tryz.func67, Tryz.ntmps67
          go_wp2
          go_ret
          exact ⟨by first | rfl | (simp; done) | (simp [*]; done), by repeat (first | exact Drawn0.refl _ | apply Drawn0.step)⟩
         ·rw [if_neg c10] at H
          have c10b0 : (a0 == 12) = false := beq_eq_false_iff_ne.mpr c10
          have c10b1 : (a0 != 12) = true := bne_iff_ne.mpr c10
          by_cases c11 : a0 = 19
          ·rw [if_pos c11] at H
           have c11b0 : (a0 == 19) = true := beq_iff_eq.mpr c11
           have c11b1 : (a0 != 19) = false := bne_eq_false_iff_eq.mpr c11
           clear c11
           obtain rfl := Option.some.inj H
           go_enter Tryz.func67, Tryz.ntmps67
           go_wp2
           go_ret
           exact ⟨by first | rfl | (simp; done) | (simp [*]; done), by repeat (first | exact Drawn0.refl _ | apply Drawn0.step)⟩
          ·rw [if_neg c11] at H
           have c11b0 : (a0 == 19) = false := beq_eq_false_iff_ne.mpr c11
           have c11b1 : (a0 != 19) = true := bne_iff_ne.mpr c11
           by_cases c12 : a0 = 22
           ·rw [if_pos c12] at H
            have c12b0 : (a0 == 22) = true := beq_iff_eq.mpr c12
            have c12b1 : (a0 != 22) = false := bne_eq_false_iff_eq.mpr c12
            clear c12
            obtain rfl := Option.some.inj H
            go_enter Tryz.func67, Tryz.ntmps67
            go_wp2
            go_ret
            exact ⟨by first | rfl | (simp; done) | (simp [*]; done), by repeat (first | exact Drawn0.refl _ | apply Drawn0.step)⟩
           ·rw [if_neg c12] at H
            have c12b0 : (a0 == 22) = false := beq_eq_false_iff_ne.mpr c12
            have c12b1 : (a0 != 22) = true := bne_iff_ne.mpr c12
            by_cases c13 : a0 = 23
            ·rw [if_pos c13] at H
             have c13b0 : (a0 == 23) = true := beq_iff_eq.mpr c13
             have c13b1 : (a0 != 23) = false := bne_eq_false_iff_eq.mpr c13
             clear c13
             obtain rfl := Option.some.inj H
             go_enter Tryz.func67, Tryz.ntmps67
             go_wp2
             go_ret
             exact ⟨by first | rfl | (simp; done) | (simp [*]; done), by repeat (first | exact Drawn0.refl _ | apply Drawn0.step)⟩
            ·rw [if_neg c13] at H
             have c13b0 : (a0 == 23) = false := beq_eq_false_iff_ne.mpr c13
             have c13b1 : (a0 != 23) = true := bne_iff_ne.mpr c13
             by_cases c14 : a0 = 24
             ·rw [if_pos c14] at H
              have c14b0 : (a0 == 24) = true := beq_iff_eq.mpr c14
              have c14b1 : (a0 != 24) = false := bne_eq_false_iff_eq.mpr c14
              clear c14
              obtain rfl := Option.some.inj H
              go_enter Tryz.func67, Tryz.ntmps67
              go_wp2
              go_ret
              exact ⟨by first | rfl | (simp; done) | (simp [*]; done), by repeat (first | exact Drawn0.refl _ | apply Drawn0.step)⟩
             ·rw [if_neg c14] at H
              have c14b0 : (a0 == 24) = false := beq_eq_false_iff_ne.mpr c14
              have c14b1 : (a0 != 24) = true := bne_iff_ne.mpr c14
              by_cases c15 : a0 = 27
              ·rw [if_pos c15] at H
               have c15b0 : (a0 == 27) = true := beq_iff_eq.mpr c15
               have c15b1 : (a0 != 27) = false := bne_eq_false_iff_eq.mpr c15
               clear c15
               obtain rfl := Option.some.inj H
               go_enter Tryz.func67, Tryz.ntmps67
               go_wp2
               go_ret
               exact ⟨by first | rfl | (simp; done) | (simp [*]; done), by repeat (first | exact Drawn0.refl _ | apply Drawn0.step)⟩
              ·rw [if_neg c15] at H
               have c15b0 : (a0 == 27) = false := beq_eq_false_iff_ne.mpr c15
               have c15b1 : (a0 != 27) = true := bne_iff_ne.mpr c15
               by_cases c16 : a0 = 48
               ·rw [if_pos c16] at H
                have c16b0 : (a0 == 48) = true := beq_iff_eq.mpr c16
                have c16b1 : (a0 != 48) = false := bne_eq_false_iff_eq.mpr c16
                clear c16
                obtain rfl := Option.some.inj H
                go_enter Tryz.func67, Tryz.ntmps67
                go_wp2
                go_ret
                exact ⟨by first | rfl | (simp; done) | (simp [*]; done), by repeat (first | exact Drawn0.refl _ | apply Drawn0.step)⟩
               ·rw [if_neg c16] at H
                have c16b0 : (a0 == 48) = false := beq_eq_false_iff_ne.mpr c16
                have c16b1 : (a0 != 48) = true := bne_iff_ne.mpr c16
                by_cases c17 : a0 = 49
                ·rw [if_pos c17] at H
                 have c17b0 : (a0 == 49) = true := beq_iff_eq.mpr c17
                 have c17b1 : (a0 != 49) = false := bne_eq_false_iff_eq.mpr c17
                 clear c17
                 obtain rfl := Option.some.inj H
                 go_enter Tryz.func67, Tryz.ntmps67
                 go_wp2
                 go_ret
                 exact ⟨by first | rfl | (simp; done) | (simp [*]; done), by repeat (first | exact Drawn0.refl _ | apply Drawn0.step)⟩
                ·rw [if_neg c17] at H
                 have c17b0 : (a0 == 49) = false := beq_eq_false_iff_ne.mpr c17
                 have c17b1 : (a0 != 49) = true := bne_iff_ne.mpr c17
                 obtain rfl := Option.some.inj H
                 go_enter Tryz.func67, Tryz.ntmps67
                 go_wp2
                 go_ret
                 exact ⟨by first | rfl | (simp; done) | (simp [*]; done), by repeat (first | exact Drawn0.refl _ | apply Drawn0.step)⟩
noncomputable def warderref02_Bool.f (l0 : List Int) : Option (Bool × Int) := if (l0.length : Int) = 1 then (if 0 < (l0.length : Int) then (if (rd l0 0) = 0 then (some (((rd l0 0) == 255), 0)) else (if (rd l0 0) = 255 then (some (((rd l0 0) == 255), 0)) else (some (false, 23)))) else (none)) else (some (false, 23))
set_option maxHeartbeats 8000000 in
set_option maxRecDepth 100000 in
theorem warderref02_Bool.calls (A0 : Option Addr) (c0 : Nat) (l0 : List Int) (r1 : Bool) (r2 : Int) (w : World) (hr0 : Kd.C (Kd.int .u8) w A0 l0.length l0) (hc0 : l0.length ≤ c0) (h : warderref02_Bool.f l0 = some (r1, r2)) :
  Calls Tryz.prog 94 #[.slice A0 l0.length c0] w fun e w' => e = .returned (.tuple #[.bool r1, .int .i64 r2]) ∧ Drawn0 w w' := by
 have HR0 := Aside0.mk hr0
 have HC0 := Aside0.mk hc0
 clear hr0 hc0
 have H : (if (l0.length : Int) = 1 then (if 0 < (l0.length : Int) then (if (rd l0 0) = 0 then (some (((rd l0 0) == 255), 0)) else (if (rd l0 0) = 255 then (some (((rd l0 0) == 255), 0)) else (some (false, 23)))) else (none)) else (some (false, 23))) = some (r1, r2) := h
 clear h
 by_cases c2 : (l0.length : Int) = 1
 ·rw [if_pos c2] at H
  have c2b0 : ((l0.length : Int) == 1) = true := beq_iff_eq.mpr c2
  have c2b1 : ((l0.length : Int) != 1) = false := bne_eq_false_iff_eq.mpr c2
  clear c2
  by_cases c3 : 0 < (l0.length : Int)
  ·rw [if_pos c3] at H
   have c3b0 : decide (0 < (l0.length : Int)) = true := decide_eq_true c3
   have c3b1 : decide (0 < l0.length) = true := decide_eq_true (by omega)
   clear c3
   by_cases c4 : (rd l0 0) = 0
   ·rw [if_pos c4] at H
    have c4b0 : ((rd l0 0) == 0) = true := beq_iff_eq.mpr c4
    have c4b1 : ((rd l0 0) != 0) = false := bne_eq_false_iff_eq.mpr c4
    clear c4
    simp only [Option.some.injEq, Prod.mk.injEq] at H
    obtain ⟨rfl, rfl⟩ := H
    have p631 : 0 ≤ (0 : Int) := (by omega)
    have q631 : 0 < (l0.length : Int) := of_decide_eq_true (by first | (with_reducible assumption) | assumption)
    obtain ⟨ad631, e631, hx631_0⟩ := Kd.at_int HR0.out 0 p631 q631
    cases e631
    have qi631 : (0 < l0.length) = True := eq_true (by omega)
    (try rw [show ((0 : Int)).toNat = 0 from rfl] at hx631_0)
    (try rw [Addr.add_zero'] at hx631_0)
    replace p631 := eq_true p631
    replace q631 := eq_true q631
    have p632 : 0 ≤ (0 : Int) := (by omega)
    have q632 : 0 < (l0.length : Int) := of_decide_eq_true (by first | (with_reducible assumption) | assumption)
    obtain ⟨ad632, e632, hx632_0⟩ := Kd.at_int HR0.out 0 p632 q632
    obtain rfl : ad631 = ad632 := (by injection e632)
    have qi632 : (0 < l0.length) = True := eq_true (by omega)
    (try rw [show ((0 : Int)).toNat = 0 from rfl] at hx632_0)
    (try rw [Addr.add_zero'] at hx632_0)
    replace p632 := eq_true p632
    replace q632 := eq_true q632
    go_enter Tryz.func94, Tryz.ntmps94
    go_wp2
    go_ret2
    exact ⟨by first | rfl | (simp; done) | (simp [*]; done), by repeat (first | exact Drawn0.refl _ | apply Drawn0.step)⟩
   ·rw [if_neg c4] at H
    have c4b0 : ((rd l0 0) == 0) = false := beq_eq_false_iff_ne.mpr c4
    have c4b1 : ((rd l0 0) != 0) = true := bne_iff_ne.mpr c4
    by_cases c5 : (rd l0 0) = 255
    ·rw [if_pos c5] at H
     have c5b0 : ((rd l0 0) == 255) = true := beq_iff_eq.mpr c5
     have c5b1 : ((rd l0 0) != 255) = false := bne_eq_false_iff_eq.mpr c5
     clear c5
     simp only [Option.some.injEq, Prod.mk.injEq] at H
     obtain ⟨rfl, rfl⟩ := H
     have p631 : 0 ≤ (0 : Int) := (by omega)
     have q631 : 0 < (l0.length : Int) := of_decide_eq_true (by first | (with_reducible assumption) | assumption)
     obtain ⟨ad631, e631, hx631_0⟩ := Kd.at_int HR0.out 0 p631 q631
     cases e631
     have qi631 : (0 < l0.length) = True := eq_true (by omega)
     (try rw [show ((0 : Int)).toNat = 0 from rfl] at hx631_0)
     (try rw [Addr.add_zero'] at hx631_0)
     replace p631 := eq_true p631
     replace q631 := eq_true q631
     have p633 : 0 ≤ (0 : Int) := (by omega)
     have q633 : 0 < (l0.length : Int) := of_decide_eq_true (by first | (with_reducible assumption) | assumption)
     obtain ⟨ad633, e633, hx633_0⟩ := Kd.at_int HR0.out 0 p633 q633
     obtain rfl : ad631 = ad633 := (by injection e633)
     have qi633 : (0 < l0.length) = True := eq_true (by omega)
     (try rw [show ((0 : Int)).toNat = 0 from rfl] at hx633_0)
     (try rw [Addr.add_zero'] at hx633_0)
     replace p633 := eq_true p633
     replace q633 := eq_true q633
     have p634 : 0 ≤ (0 : Int) := (by omega)
     have q634 : 0 < (l0.length : Int) := of_decide_eq_true (by first | (with_reducible assumption) | assumption)
     obtain ⟨ad634, e634, hx634_0⟩ := Kd.at_int HR0.out 0 p634 q634
     obtain rfl : ad631 = ad634 := (by injection e634)
     have qi634 : (0 < l0.length) = True := eq_true (by omega)
     (try rw [show ((0 : Int)).toNat = 0 from rfl] at hx634_0)
     (try rw [Addr.add_zero'] at hx634_0)
     replace p634 := eq_true p634
     replace q634 := eq_true q634
     go_enter Tryz.func94, Tryz.ntmps94
     go_wp2
     go_ret2
     exact ⟨by first | rfl | (simp; done) | (simp [*]; done), by repeat (first | exact Drawn0.refl _ | apply Drawn0.step)⟩
    ·rw [if_neg c5] at H
     have c5b0 : ((rd l0 0) == 255) = false := beq_eq_false_iff_ne.mpr c5
     have c5b1 : ((rd l0 0) != 255) = true := bne_iff_ne.mpr c5
     simp only [Option.some.injEq, Prod.mk.injEq] at H
     obtain ⟨rfl, rfl⟩ := H
     have p631 : 0 ≤ (0 : Int) := (by omega)
     have q631 : 0 < (l0.length : Int) := of_decide_eq_true (by first | (with_reducible assumption) | assumption)
     obtain ⟨ad631, e631, hx631_0⟩ := Kd.at_int HR0.out 0 p631 q631
     cases e631
     have qi631 : (0 < l0.length) = True := eq_true (by omega)
     (try rw [show ((0 : Int)).toNat = 0 from rfl] at hx631_0)
     (try rw [Addr.add_zero'] at hx631_0)
     replace p631 := eq_true p631
     replace q631 := eq_true q631
     have p633 : 0 ≤ (0 : Int) := (by omega)
     have q633 : 0 < (l0.length : Int) := of_decide_eq_true (by first | (with_reducible assumption) | assumption)
     obtain ⟨ad633, e633, hx633_0⟩ := Kd.at_int HR0.out 0 p633 q633
     obtain rfl : ad631 = ad633 := (by injection e633)
     have qi633 : (0 < l0.length) = True := eq_true (by omega)
     (try rw [show ((0 : Int)).toNat = 0 from rfl] at hx633_0)
     (try rw [Addr.add_zero'] at hx633_0)
     replace p633 := eq_true p633
     replace q633 := eq_true q633
     go_enter Tryz.func94, Tryz.ntmps94
     go_wp2
     go_ret2
     exact ⟨by first | rfl | (simp; done) | (simp [*]; done), by repeat (first | exact Drawn0.refl _ | apply Drawn0.step)⟩
  ·rw [if_neg c3] at H
   exact absurd H (by simp)
 ·rw [if_neg c2] at H
  have c2b0 : ((l0.length : Int) == 1) = false := beq_eq_false_iff_ne.mpr c2
  have c2b1 : ((l0.length : Int) != 1) = true := bne_iff_ne.mpr c2
  simp only [Option.some.injEq, Prod.mk.injEq] at H
  obtain ⟨rfl, rfl⟩ := H
  go_enter Tryz.func94, Tryz.ntmps94
  go_wp2
  go_ret2
  exact ⟨by first | rfl | (simp; done) | (simp [*]; done), by repeat (first | exact Drawn0.refl _ | apply Drawn0.step)⟩
end Go.Proofs.YtncanijjnhkgbaaGreatDoor.PMsgsPut
namespace Go.Proofs.YtncanijjnhkgbaaGreatDoor.PMsgsPut
open Go.RowKit Go.Proofs.YtncanijjnhkgbaaGreatDoorW.PrintWords Go.Proofs.YtncanijjnhkgbaaGreatDoorW.PrintLast Go.Proofs.YtncanijjnhkgbaaGreatDoorW.PrintMore
theorem rTruth_some (b : Bool) : warderref09_Truth.f b = some (1, [if b = true then 255 else 0], []) := by
 unfold warderref09_Truth.f warderref02_PutBool.f
 cases b <;> rfl
theorem rOctets_some (l : List Int) (h : l.length ≤ 1048576) : warderref09_Octets.f l = some (4, l, []) := by
 unfold warderref09_Octets.f
 simp only [Option.bind_some, List.length_nil, List.nil_append]
 rw [if_pos (by omega)]
theorem rBytes_step (n : Int) (l : List Int) (i : Nat) (hi : i ≤ 5) (hl : l.length ≤ 100) (r : List Int)
  (h : Ev (fun k => warderref06_Bytes.l0 k n (l ++ [n / 256 ^ i % 256]) ((i : Int) - 1)) r) : Ev (fun k => warderref06_Bytes.l0 k n l (i : Int)) r := by
 refine Ev.step ?_
 simp only [warderref06_Bytes.l0]
 have e1 : wrap64 (8 * (i : Int)) = ((8 * i : Nat) : Int) := by rw [w64 (by omega) (by omega)]; omega
 have e2 : wrap64 ((i : Int) - 1) = (i : Int) - 1 := w64 (by omega) (by omega)
 rw [e1, e2, shr_byte n i (by omega)]
 exact Ev.pos (by omega) (Ev.pos (by omega) (Ev.pos (by omega) h))
theorem rBytes_some (n : Int) (h1 : 0 ≤ n) (h2 : n < 281474976710656) : Ev (fun k => warderref06_Bytes.f k n) (hE n) := by
 unfold warderref06_Bytes.f
 refine Ev.neg (by omega) ?_
 refine Ev.step ?_
 simp only [warderref06_Bytes.j0]
 refine Ev.neg (by rw [decide_eq_true_eq]; omega) ?_
 refine rBytes_step n _ 5 (by decide) (by simp) _ (rBytes_step n _ 4 (by decide) (by simp) _ (rBytes_step n _ 3 (by decide) (by simp) _ (rBytes_step n _ 2 (by decide) (by simp) _ (rBytes_step n _ 1 (by decide) (by simp) _ (rBytes_step n _ 0 (by decide) (by simp) _ ?_)))))
 refine Ev.step ?_
 simp only [warderref06_Bytes.l0]
 refine Ev.neg (by decide) (Ev.pure ?_)
 have e : n / 256 ^ 0 = n := by rw [Int.pow_zero, Int.ediv_one]
 rw [e]
 rfl
theorem rHandle_some (n : Int) (h1 : 0 ≤ n) (h2 : n < 281474976710656) : Ev (fun k => warderref09_Handle.f k n) (4, hE n, []) := by
 unfold warderref09_Handle.f
 refine Ev.bind (rBytes_some n h1 h2) ?_
 exact Ev.pure (by rw [rOctets_some _ (by show 8 ≤ _; decide)]; rfl)
theorem rPutInt_loop : ∀ (m : Nat) (n : Int) (t : List Int), t.length + m ≤ 100 → -128 ≤ n / 256 ^ m → n / 256 ^ m ≤ 127 → Ev (fun k => warderref02_PutInt.l0 k n (n % 256 :: t)) (intF m n ++ t)
 | 0, n, t, ht, h1, h2 => by
  rw [Int.pow_zero, Int.ediv_one] at h1 h2
  refine Ev.step ?_
  simp only [warderref02_PutInt.l0]
  exact Ev.neg (by omega) (Ev.neg (by omega) (Ev.pure rfl))
 | m + 1, n, t, ht, h1, h2 => by
  rw [← dg_of] at h1 h2
  have ih := rPutInt_loop m (n / 256) (n % 256 :: t) (by simp; omega) h1 h2
  refine Ev.step ?_
  simp only [warderref02_PutInt.l0, Option.bind_some]
  unfold intF
  by_cases h3 : n < -128
  ·rw [if_neg (by omega), List.append_assoc]
   exact Ev.pos h3 (Ev.pos (by simp; omega) ih)
  ·refine Ev.neg h3 ?_
   by_cases h4 : n > 127
   ·rw [if_neg (by omega), List.append_assoc]
    exact Ev.pos h4 (Ev.pos (by simp; omega) ih)
   ·rw [if_pos (by omega)]
    exact Ev.neg h4 (Ev.pure rfl)
theorem rInt_some (n : Int) (h1 : -9223372036854775808 ≤ n) (h2 : n ≤ 9223372036854775807) : Ev (fun k => warderref09_Int.f k n) (2, intE n, []) := by
 unfold warderref09_Int.f warderref02_PutInt.f
 refine Ev.bind (x := intE n) ?_ (Ev.pure rfl)
 have h := rPutInt_loop 7 n [] (by decide) (by omega) (by omega)
 rw [List.append_nil] at h
 exact h
end Go.Proofs.YtncanijjnhkgbaaGreatDoor.PMsgsPut
namespace Go.Proofs.YtncanijjnhkgbaaGreatDoor.PMsgsPut
open Go.RowKit Go.Proofs.YtncanijjnhkgbaaGreatDoorW.PrintWords Go.Proofs.YtncanijjnhkgbaaGreatDoorW.PrintLast Go.Proofs.YtncanijjnhkgbaaGreatDoorW.PrintMore
theorem wordB_eq (s : ByteArray) : wordB s = (genS s && lenB s) := by
 unfold wordB lenB
 rw [Bool.and_comm]
theorem text_FK {W : World} {e base : Nat} {ok : Nat → Prop} {A : Option Addr} {c : Nat} {s : ByteArray} (h : Kd.V (Kd.int .u8) e W base ok (.slice A s.size c) (bytesOf s)) : Kd.FK k44 W ok (textN s) [.int .u8 27, .slice A s.size c, .slice none 0 0] := by
 obtain ⟨h1, h2, h3⟩ := Kd.V_at h
 have h4 := k44_mkF W ok (textN s) (A1 := A) (c1 := c) (by show (bytesOf s).length ≤ c; omega) h3 (A2 := none) (c2 := 0) (Nat.le_refl _) (Kd.F_nil _ _ _)
 have hb : (textN s).f1.length = s.size := bytesOf_length s
 rw [hb] at h4
 exact h4
theorem list_far {w wr w1 w2 : World} {o : Obj} {v : Value} {xs : List S44} {a b : Obj} (hN : Kd.N k44 44 wr w.heap.size (fun k => w.heap.size + 1 < k) v xs) (h0 : wr.heap[w.heap.size]? = some a) (h1 : wr.heap[w.heap.size + 1]? = some b) (hb : Below wr.heap.size wr w1) (u : Value)
  (hg : (w1.alloc o).grownBy w2 v.ownBlock) : w2.heap[w.heap.size]? = some a ∧ w2.heap[w.heap.size + 1]? = some b := by
 have g0 := blk_alloc (blk_below h0 hb) o
 have g1 := blk_alloc (blk_below h1 hb) o
 refine ⟨(hg.block _ (blk_lt g0) (fun he => ?_)).trans g0, (hg.block _ (blk_lt g1) (fun he => ?_)).trans g1⟩
 ·have := hN.1 _ he.symm
  omega
 ·have := hN.1 _ he.symm
  omega
set_option maxHeartbeats 4000000 in
theorem list_calls (A0 : Option Addr) (c0 : Nat) (l : List ByteArray) (w : World) (hr : Kd.C Kd.string w A0 l.length l) (hl : l.length ≤ 1048576) (hs : ∀ s ∈ l, s.size ≤ 1048576) :
  Calls Tryz.prog 48 #[.int .u8 48, .slice A0 l.length c0, .func (.func 46) #[] #[]] w fun e w' => ∃ v : Value, e = .returned (.tuple #[.agg #[.int .u8 (if l.all wordB = true then 48 else 0), .slice none 0 0, v], .bool (l.all wordB)]) ∧ Kd.V k44 44 w' w.heap.size (fun k => w.heap.size ≤ k) v (if l.all wordB = true then l.map textN else []) ∧ Below w.heap.size w w' := by
 have PR := Aside0.mk hr
 have PS := Aside0.mk hs
 obtain ⟨n, hn⟩ : ∃ n, n = l.length := ⟨_, rfl⟩
 have PN := Aside0.mk hn
 rw [← hn] at hl ⊢
 obtain ⟨P, hP⟩ : ∃ P, P = l.all wordB := ⟨_, rfl⟩
 obtain ⟨T, hT⟩ : ∃ T : Int, T = if P = true then 48 else 0 := ⟨_, rfl⟩
 obtain ⟨R, hR⟩ : ∃ R, R = if P = true then l.map textN else [] := ⟨_, rfl⟩
 rw [← hP, ← hT, ← hR]
 have PP := Aside0.mk (And.intro hP (And.intro hT hR))
 clear hr hs hn hP hT hR
 go_enter Tryz.func48, Tryz.ntmps48
 go_wp2
 go_loopg [17] n (fun g v17 wx => ∃ (i : Nat) (kv : Value), i + g = n ∧ v17 = .int .i64 i ∧ (∀ s ∈ l.take i, wordB s = true) ∧ wx.heap[w.heap.size]? = some (.cells #[.int .u8 0, .slice none 0 0, .slice none 0 0] 44) ∧ wx.heap[w.heap.size + 1]? = some (.cells #[.int .u8 48, .slice none 0 0, kv] 44) ∧ Kd.N k44 44 wx w.heap.size (fun k => w.heap.size + 1 < k) kv ((l.take i).map textN) ∧ Below w.heap.size w wx)
 case atStart =>
  refine ⟨0, .slice none 0 0, by omega, rfl, by simp, blk_alloc (blk_new _ _) _, ?_, by simpa using Kd.N_nil _ _ _ _ _, below_alloc (below_alloc (Below.refl _ _) _) _⟩
  have h := blk_new (w.alloc (.cells #[.int .u8 0, .slice none 0 0, .slice none 0 0] 44)) (.cells #[.int .u8 48, .slice none 0 0, .slice none 0 0] 44)
  simp only [World.alloc, Array.size_push] at h ⊢
  exact h
 case round =>
  obtain ⟨i, kv, hig, rfl, hall, hk0, hk1, hN, hb⟩ := hrel
  cases gk with
  | zero =>
   obtain rfl : i = n := by omega
   have hP : P = true := by
    rw [PN.out, List.take_length] at hall
    rw [PP.out.1]
    exact List.all_eq_true.2 hall
   obtain ⟨-, hT, hR⟩ := PP.out
   rw [if_pos hP] at hT hR
   subst hP hT hR
   have hle : (l.take i).map textN = l.map textN := by rw [PN.out, List.take_length]
   rw [hle] at hN
   obtain ⟨Ak, ck, rfl⟩ := Kd.N_slice hN
   have hml : (l.map textN).length = i := by rw [List.length_map, ← PN.out]
   rw [hml] at hN hk1
   have z0 := (blk_cell hk0 0).trans rfl
   have z1 := (blk_cell hk0 1).trans rfl
   have z2 := (blk_cell hk0 2).trans rfl
   have y0 := blk_frozen hk0 0
   have y1 := blk_frozen hk0 1
   have y2 := blk_frozen hk0 2
   have x0 := (blk_cell hk1 0).trans rfl
   have x1 := (blk_cell hk1 1).trans rfl
   have x2 := (blk_cell hk1 2).trans rfl
   have PK := Aside0.mk hk0
   have PV := Aside0.mk hN
   have PB := Aside0.mk hb
   clear hk0 hk1 hN hb hall hig hle hml
   go_wp2
   refine bodyPost_ret (results_ct rfl _ _ w.heap.size 44 #[.int .u8 48, .slice none 0 0, .slice Ak i ck] (0, 0) _ rfl (blk_put (blk_put (blk_put PK.out 0 _ rfl) 1 _ rfl) 2 _ rfl) Tryz.underlying44 rfl (by kernel_rfl)) rfl ?_
   have hne : ∀ k, w.heap.size + 1 < k → k ≠ w.heap.size := fun k hk => by omega
   have hN2 := Kd.N_far (p := ⟨w.heap.size, 2, none⟩) (Kd.N_far (p := ⟨w.heap.size, 1, none⟩) (Kd.N_far (p := ⟨w.heap.size, 0, none⟩) PV.out hne (.int .u8 48)) hne (.slice none 0 0)) hne (.slice Ak i ck)
   exact ⟨_, rfl, Kd.V_mono (Kd.N_V hN2) (fun k hk => by omega), below_set (below_set (below_set PB.out (Nat.le_refl _)) (Nat.le_refl _)) (Nat.le_refl _)⟩
  | succ g =>
   have hil : i < l.length := by rw [← PN.out]; omega
   have hin : i < n := by omega
   have hC := Kd.C_below PR.out hb
   obtain ⟨ad, rfl, hcell⟩ := Kd.at_string hC (i : Int) (by omega) (by omega)
   obtain ⟨s, hsl⟩ : ∃ s, s = l[i] := ⟨_, rfl⟩
   have hx : rdOf ByteArray.empty l (i : Int) = s := by
    unfold rdOf
    rw [Int.toNat_natCast, List.getD_eq_getElem?_getD, List.getElem?_eq_getElem hil, hsl]
    rfl
   rw [hx, Int.toNat_natCast] at hcell
   have hm : s ∈ l := by rw [hsl]; exact List.getElem_mem hil
   have PO := Aside0.mk (fun W => of_calls s (PS.out s hm) W)
   have hlt : w.heap.size + 2 ≤ wr.heap.size := blk_lt hk1
   have ht : l.take (i + 1) = l.take i ++ [s] := by rw [List.take_succ_eq_append_getElem hil, ← hsl]
   obtain ⟨Ak, ck, rfl⟩ := Kd.N_slice hN
   have hw1 : wrap64 ((i : Int) + 1) = ((i + 1 : Nat) : Int) := by unfold wrap64; omega
   by_cases hW : wordB s = true
   ·have hW2 : (genS s && lenB s) = true := by rw [← wordB_eq]; exact hW
    rw [hW2] at PO
    have hall2 : ∀ x ∈ l.take (i + 1), wordB x = true := by
     rw [ht]
     intro x hx
     rcases List.mem_append.1 hx with h | h
     ·exact hall x h
     ·rw [List.mem_singleton.1 h]; exact hW
    have hm2 : (l.take (i + 1)).map textN = (l.take i).map textN ++ [textN s] := by rw [ht, List.map_append]; rfl
    have hml : ((l.take i).map textN).length = i := by rw [List.length_map, List.length_take]; omega
    rw [hml] at hN hk1
    have hml2 : ((l.take (i + 1)).map textN).length = i + 1 := by rw [List.length_map, List.length_take]; omega
    have PM := Aside0.mk hml2
    have PA := Aside0.mk (And.intro hall2 (And.intro hm2 (And.intro hml (And.intro hk0 (And.intro hk1 (And.intro hN (And.intro hb (And.intro hlt hl))))))))
    clear hk0 hk1 hN hb hall hx hsl hm ht hW hW2 hC hil hlt hall2 hm2 hml hml2
    go_wp2_with (first
     | (go_at_call 46; refine (PO.out _).mono ?_; rintro e w1 ⟨A, c, rfl, hV, hb⟩; have hk := blk_below PA.out.2.2.2.2.1 hb; have hlt := blk_lt hk; have hne := Nat.ne_of_lt hlt; have x2 := (blk_cell hk 2).trans rfl; have PV := Aside0.mk hV; have PB := Aside0.mk hb; clear hk hV hb)
     | ((with_reducible refine gate_builtin (b := .append) rfl ?_); at_builtin; refine Kd.N_append k44 (w0 := w) (W := w1.alloc (.cells #[.int .u8 27, .slice A s.size c, .slice none 0 0] 44)) w.heap.size rfl _ _ 42 44 (.agg #[.int .u8 0, .slice none 0 0, .slice none 0 0]) 56 rfl Tryz.underlying42 info44 rfl (by decide) (by decide) (.slice Ak i ck) ((l.take i).map textN) (textN s) [.int .u8 27, .slice A s.size c, .slice none 0 0] (fun k => w.heap.size + 1 < k) (fun k => wr.heap.size ≤ k) rfl ?hx ?hp ?hokp ?hfr ?hO ?hB ?hba ?hle ?_; (case hx => (show Value.slice (some ⟨w1.heap.size + 1, 0, none⟩) 1 1 = _; simp only [World.alloc, Array.size_push])); (case hp => exact text_FK (Kd.V_alloc PV.out _)); (case hokp => exact (fun k hk => ⟨Nat.lt_of_lt_of_le (Nat.lt_of_succ_le PA.out.2.2.2.2.2.2.2.1) hk, fun he => absurd (Kd.N_lt PA.out.2.2.2.2.2.1 k he.symm) (Nat.not_lt.2 hk)⟩)); (case hfr => exact (fun k hk => Nat.lt_trans hlt (node_lt hk))); (case hO => exact Kd.N_alloc (Kd.N_below PA.out.2.2.2.2.2.1 PB.out) _); (case hB => exact below_alloc (below_step PA.out.2.2.2.2.2.2.1 PB.out) _); (case hba => exact below_size (below_alloc (below_step PA.out.2.2.2.2.2.2.1 PB.out) _)); (case hle => (have h1 := PA.out.2.2.1; have h2 := PA.out.2.2.2.2.2.2.2.2; omega)); intro v1 w2 hN2 hb2 hg2 hat2; have hf := list_far PA.out.2.2.2.2.2.1 PA.out.2.2.2.1 PA.out.2.2.2.2.1 PB.out (.bool true) hg2; rw [← PA.out.2.1] at hN2; obtain ⟨Av, cv, rfl⟩ := Kd.N_slice hN2; rw [PM.out] at hN2 ⊢; have u2 := (blk_cell hf.2 2).trans rfl; have f2 := blk_frozen hf.2 2; have PQ := Aside0.mk (And.intro hf (And.intro hN2 hb2)); clear hf hN2 hb2 hg2 hat2))
    go_roundg g
    case measure => omega
    case rel =>
     obtain ⟨⟨hk0, hk1⟩, hN2, hb2⟩ := PQ.out
     have hne : ∀ k, w.heap.size + 1 < k → k ≠ w.heap.size + 1 := fun k hk => Nat.ne_of_gt hk
     exact ⟨i + 1, _, by omega, by first | rfl | rw [hw1], PA.out.1, blk_far hk0 (show w.heap.size ≠ w.heap.size + 1 by omega) _, blk_put hk1 2 _ rfl, Kd.N_far (p := ⟨w.heap.size + 1, 2, none⟩) hN2 hne _, below_set hb2 (show w.heap.size ≤ w.heap.size + 1 by omega)⟩
   ·have hW2 : (genS s && lenB s) = false := by rw [← wordB_eq]; exact Bool.eq_false_iff.2 hW
    rw [hW2] at PO
    have hP : P = false := by
     rw [PP.out.1, Bool.eq_false_iff]
     exact fun h => hW (List.all_eq_true.1 h s hm)
    obtain ⟨-, hT, hR⟩ := PP.out
    rw [hP, if_neg (by decide)] at hT hR
    subst hP hT hR
    have PK := Aside0.mk hk0
    have PB := Aside0.mk hb
    clear hk0 hk1 hN hb hall hig hx hsl hm ht hW hW2 hC hil hw1 hlt
    go_wp2_with (go_at_call 46; refine (PO.out _).mono ?_; rintro e w1 ⟨A, c, rfl, hV, hb⟩; have hk := blk_below PK.out hb; have hlt := blk_lt hk; have hne := Nat.ne_of_lt hlt; have z0 := (blk_cell hk 0).trans rfl; have z1 := (blk_cell hk 1).trans rfl; have z2 := (blk_cell hk 2).trans rfl; have y0 := blk_frozen hk 0; have y1 := blk_frozen hk 1; have y2 := blk_frozen hk 2; have PK2 := Aside0.mk hk; have PB2 := Aside0.mk (below_step PB.out hb); clear hk hV hb)
    refine bodyPost_ret (results_ct rfl _ _ w.heap.size 44 #[.int .u8 0, .slice none 0 0, .slice none 0 0] (0, 0) _ rfl (blk_alloc (blk_put (blk_put (blk_put PK2.out 0 _ rfl) 1 _ rfl) 2 _ rfl) _) Tryz.underlying44 rfl (by kernel_rfl)) rfl ?_
    exact ⟨_, rfl, Kd.V_nil _ _ _ _ _, below_alloc (below_set (below_set (below_set PB2.out (Nat.le_refl _)) (Nat.le_refl _)) (Nat.le_refl _)) _⟩
end Go.Proofs.YtncanijjnhkgbaaGreatDoor.PMsgsPut
namespace Go.Proofs.YtncanijjnhkgbaaGreatDoor.PMsgsPut
open Go.RowKit Go.Proofs.YtncanijjnhkgbaaGreatDoorW.PrintWords Go.Proofs.YtncanijjnhkgbaaGreatDoorW.PrintLast Go.Proofs.YtncanijjnhkgbaaGreatDoorW.PrintMore
theorem seq_far {w wr w1 w2 : World} {o : Obj} {v : Value} {xs : List S44} {a b : Obj} {B0 : Nat} (hN : Kd.N k44 44 wr w.heap.size (fun k => (B0 ≤ k ∧ k < w.heap.size) ∨ w.heap.size + 1 < k) v xs) (h0 : wr.heap[w.heap.size]? = some a) (h1 : wr.heap[w.heap.size + 1]? = some b) (hb : Below wr.heap.size wr w1)
  (hg : (w1.alloc o).grownBy w2 v.ownBlock) : w2.heap[w.heap.size]? = some a ∧ w2.heap[w.heap.size + 1]? = some b := by
 have g0 := blk_alloc (blk_below h0 hb) o
 have g1 := blk_alloc (blk_below h1 hb) o
 refine ⟨(hg.block _ (blk_lt g0) (fun he => ?_)).trans g0, (hg.block _ (blk_lt g1) (fun he => ?_)).trans g1⟩
 ·have := hN.1 _ he.symm
  omega
 ·have := hN.1 _ he.symm
  omega
def cellsOf (n : S44) (A : Option Addr) (c : Nat) (B : Option Addr) (d : Nat) : List Value := [.int .u8 n.f0, .slice A n.f1.length c, .slice B n.f2.length d]
set_option maxHeartbeats 4000000 in
theorem seq_calls (n : Nat) (hl : n ≤ 1000) (av : Addr) (cv : Nat) (X : Nat → Value) (NN : Nat → S44) (BB : Nat → Bool) (B0 : Nat) (w : World) (hX : ∀ i, i < n → w.cell? (av.add i) = some (X i))
  (hH : ∀ i, i < n → ∀ W, Below w.heap.size w W → Calls Tryz.prog 17 #[X i] W fun e w' => ∃ A c B d, e = .returned (.tuple #[.agg #[.int .u8 (NN i).f0, .slice A (NN i).f1.length c, .slice B (NN i).f2.length d], .bool (BB i)]) ∧ Kd.FK k44 w' (fun k => (B0 ≤ k ∧ k < w.heap.size) ∨ W.heap.size ≤ k) (NN i) (cellsOf (NN i) A c B d) ∧ Below W.heap.size W w') (hB0 : B0 ≤ w.heap.size) :
  Calls Tryz.prog 49 #[.int .u8 48, .slice (some av) n cv] w fun e w' => ∃ v : Value, e = .returned (.tuple #[.agg #[.int .u8 (if (List.range n).all BB = true then 48 else 0), .slice none 0 0, v], .bool ((List.range n).all BB)]) ∧ Kd.V k44 44 w' w.heap.size (fun k => B0 ≤ k) v (if (List.range n).all BB = true then (List.range n).map NN else []) ∧ Below w.heap.size w w' := by
 have PX := Aside0.mk hX
 have PH := Aside0.mk hH
 obtain ⟨P, hP⟩ : ∃ P, P = (List.range n).all BB := ⟨_, rfl⟩
 obtain ⟨T, hT⟩ : ∃ T : Int, T = if P = true then 48 else 0 := ⟨_, rfl⟩
 obtain ⟨R, hR⟩ : ∃ R, R = if P = true then (List.range n).map NN else [] := ⟨_, rfl⟩
 rw [← hP, ← hT, ← hR]
 have PP := Aside0.mk (And.intro hP (And.intro hT hR))
 clear hX hH hP hT hR
 go_enter Tryz.func49, Tryz.ntmps49
 go_wp2
 go_loopg [15] n (fun g v15 wx => ∃ (i : Nat) (kv : Value), i + g = n ∧ v15 = .int .i64 i ∧ (∀ j, j < i → BB j = true) ∧ wx.heap[w.heap.size]? = some (.cells #[.int .u8 0, .slice none 0 0, .slice none 0 0] 44) ∧ wx.heap[w.heap.size + 1]? = some (.cells #[.int .u8 48, .slice none 0 0, kv] 44) ∧ Kd.N k44 44 wx w.heap.size (fun k => (B0 ≤ k ∧ k < w.heap.size) ∨ w.heap.size + 1 < k) kv ((List.range i).map NN) ∧ Below w.heap.size w wx)
 case atStart =>
  refine ⟨0, .slice none 0 0, by omega, rfl, fun j hj => by omega, blk_alloc (blk_new _ _) _, ?_, by simpa using Kd.N_nil _ _ _ _ _, below_alloc (below_alloc (Below.refl _ _) _) _⟩
  have h := blk_new (w.alloc (.cells #[.int .u8 0, .slice none 0 0, .slice none 0 0] 44)) (.cells #[.int .u8 48, .slice none 0 0, .slice none 0 0] 44)
  simp only [World.alloc, Array.size_push] at h ⊢
  exact h
 case round =>
  obtain ⟨i, kv, hig, rfl, hall, hk0, hk1, hN, hb⟩ := hrel
  cases gk with
  | zero =>
   obtain rfl : i = n := by omega
   have hP : P = true := by
    rw [PP.out.1]
    exact List.all_eq_true.2 (fun j hj => hall j (List.mem_range.1 hj))
   obtain ⟨-, hT, hR⟩ := PP.out
   rw [if_pos hP] at hT hR
   subst hP hT hR
   obtain ⟨Ak, ck, rfl⟩ := Kd.N_slice hN
   have hml : ((List.range i).map NN).length = i := by rw [List.length_map, List.length_range]
   rw [hml] at hN hk1
   have z0 := (blk_cell hk0 0).trans rfl
   have z1 := (blk_cell hk0 1).trans rfl
   have z2 := (blk_cell hk0 2).trans rfl
   have y0 := blk_frozen hk0 0
   have y1 := blk_frozen hk0 1
   have y2 := blk_frozen hk0 2
   have x0 := (blk_cell hk1 0).trans rfl
   have x1 := (blk_cell hk1 1).trans rfl
   have x2 := (blk_cell hk1 2).trans rfl
   have PK := Aside0.mk hk0
   have PV := Aside0.mk hN
   have PB := Aside0.mk hb
   clear hk0 hk1 hN hb hall hig hml
   go_wp2
   refine bodyPost_ret (results_ct rfl _ _ w.heap.size 44 #[.int .u8 48, .slice none 0 0, .slice Ak i ck] (0, 0) _ rfl (blk_put (blk_put (blk_put PK.out 0 _ rfl) 1 _ rfl) 2 _ rfl) Tryz.underlying44 rfl (by kernel_rfl)) rfl ?_
   have hne : ∀ k, ((B0 ≤ k ∧ k < w.heap.size) ∨ w.heap.size + 1 < k) → k ≠ w.heap.size := fun k hk => by omega
   have hN2 := Kd.N_far (p := ⟨w.heap.size, 2, none⟩) (Kd.N_far (p := ⟨w.heap.size, 1, none⟩) (Kd.N_far (p := ⟨w.heap.size, 0, none⟩) PV.out hne (.int .u8 48)) hne (.slice none 0 0)) hne (.slice Ak i ck)
   exact ⟨_, rfl, Kd.V_mono (Kd.N_V hN2) (fun k hk => by omega), below_set (below_set (below_set PB.out (Nat.le_refl _)) (Nat.le_refl _)) (Nat.le_refl _)⟩
  | succ g =>
   have hin : i < n := by omega
   have hcell := (hb.cell (World.block_lt_of_cell? _ _ (PX.out i hin))).trans (PX.out i hin)
   obtain ⟨x, hx⟩ : ∃ x, X i = x := ⟨_, rfl⟩
   rw [hx] at hcell
   have hO := PH.out i hin wr hb
   rw [hx] at hO
   have PO := Aside0.mk hO
   have hlt : w.heap.size + 2 ≤ wr.heap.size := blk_lt hk1
   have hw1 : wrap64 ((i : Int) + 1) = ((i + 1 : Nat) : Int) := by unfold wrap64; omega
   obtain ⟨Ak, ck, rfl⟩ := Kd.N_slice hN
   obtain ⟨m, hm⟩ : ∃ m, m = NN i := ⟨_, rfl⟩
   rw [← hm] at PO
   by_cases hW : BB i = true
   ·rw [hW] at PO
    have hall2 : ∀ j, j < i + 1 → BB j = true := fun j hj => by
     by_cases h : j = i
     ·rw [h]; exact hW
     ·exact hall j (by omega)
    have hm2 : (List.range (i + 1)).map NN = (List.range i).map NN ++ [m] := by rw [List.range_succ, List.map_append, hm]; rfl
    have hml : ((List.range i).map NN).length = i := by rw [List.length_map, List.length_range]
    have hml2 : ((List.range (i + 1)).map NN).length = i + 1 := by rw [List.length_map, List.length_range]
    rw [hml] at hN hk1
    have PM := Aside0.mk hml2
    have PA := Aside0.mk (And.intro hall2 (And.intro hm2 (And.intro hml (And.intro hk0 (And.intro hk1 (And.intro hN (And.intro hb (And.intro hlt hl))))))))
    have PZ := Aside0.mk hB0
    clear hk0 hk1 hN hb hall hx hO hm hW hlt hall2 hm2 hml hml2 hB0
    go_wp2_with (first
     | (go_at_call 17; refine PO.out.mono ?_; rintro e w1 ⟨A, c, B, d, rfl, hF, hb⟩; have hk := blk_below PA.out.2.2.2.2.1 hb; have hlt := blk_lt hk; have hne := Nat.ne_of_lt hlt; have x2 := (blk_cell hk 2).trans rfl; have PF := Aside0.mk hF; have PB := Aside0.mk hb; clear hk hF hb)
     | ((with_reducible refine gate_builtin (b := .append) rfl ?_); at_builtin; refine Kd.N_append k44 (w0 := w) (W := w1.alloc (.cells #[.int .u8 m.f0, .slice A m.f1.length c, .slice B m.f2.length d] 44)) w.heap.size rfl _ _ 42 44 (.agg #[.int .u8 0, .slice none 0 0, .slice none 0 0]) 56 rfl Tryz.underlying42 info44 rfl (by decide) (by decide) (.slice Ak i ck) ((List.range i).map NN) m (cellsOf m A c B d) (fun k => (B0 ≤ k ∧ k < w.heap.size) ∨ w.heap.size + 1 < k) (fun k => (B0 ≤ k ∧ k < w.heap.size) ∨ wr.heap.size ≤ k) rfl ?hx ?hp ?hokp ?hfr ?hO ?hB ?hba ?hle ?_; (case hx => (show Value.slice (some ⟨w1.heap.size + 1, 0, none⟩) 1 1 = _; simp only [World.alloc, Array.size_push])); (case hp => exact Kd.FK_below PF.out (below_alloc (Below.refl _ _) _)); (case hokp => exact (fun k hk => ⟨by have := PA.out.2.2.2.2.2.2.2.1; omega, fun he => by have h1 := Kd.N_lt PA.out.2.2.2.2.2.1 k he.symm; have h2 := Kd.N_base PA.out.2.2.2.2.2.1 k he.symm; omega⟩)); (case hfr => exact (fun k hk => .inr (Nat.lt_trans hlt (node_lt hk)))); (case hO => exact Kd.N_alloc (Kd.N_below PA.out.2.2.2.2.2.1 PB.out) _); (case hB => exact below_alloc (below_step PA.out.2.2.2.2.2.2.1 PB.out) _); (case hba => exact below_size (below_alloc (below_step PA.out.2.2.2.2.2.2.1 PB.out) _)); (case hle => (have h1 := PA.out.2.2.1; have h2 := PA.out.2.2.2.2.2.2.2.2; omega)); intro v1 w2 hN2 hb2 hg2 hat2; have hf := seq_far PA.out.2.2.2.2.2.1 PA.out.2.2.2.1 PA.out.2.2.2.2.1 PB.out hg2; rw [← PA.out.2.1] at hN2; obtain ⟨Av, cv, rfl⟩ := Kd.N_slice hN2; rw [PM.out] at hN2 ⊢; have u2 := (blk_cell hf.2 2).trans rfl; have f2 := blk_frozen hf.2 2; have PQ := Aside0.mk (And.intro hf (And.intro hN2 hb2)); clear hf hN2 hb2 hg2 hat2))
    go_roundg g
    case measure => omega
    case rel =>
     obtain ⟨⟨hk0, hk1⟩, hN2, hb2⟩ := PQ.out
     have hne : ∀ k, ((B0 ≤ k ∧ k < w.heap.size) ∨ w.heap.size + 1 < k) → k ≠ w.heap.size + 1 := fun k hk => by omega
     exact ⟨i + 1, _, by omega, by first | rfl | rw [hw1], PA.out.1, blk_far hk0 (show w.heap.size ≠ w.heap.size + 1 by omega) _, blk_put hk1 2 _ rfl, Kd.N_far (p := ⟨w.heap.size + 1, 2, none⟩) hN2 hne _, below_set hb2 (show w.heap.size ≤ w.heap.size + 1 by omega)⟩
   ·have hW2 : BB i = false := Bool.eq_false_iff.2 hW
    rw [hW2] at PO
    have hP : P = false := by
     rw [PP.out.1, Bool.eq_false_iff]
     exact fun h => hW (List.all_eq_true.1 h i (List.mem_range.2 hin))
    obtain ⟨-, hT, hR⟩ := PP.out
    rw [hP, if_neg (by decide)] at hT hR
    subst hP hT hR
    have PK := Aside0.mk hk0
    have PB := Aside0.mk hb
    clear hk0 hk1 hN hb hall hx hO hm hW hW2 hlt hw1 hB0
    go_wp2_with (go_at_call 17; refine PO.out.mono ?_; rintro e w1 ⟨A, c, B, d, rfl, hF, hb⟩; have hk := blk_below PK.out hb; have hlt := blk_lt hk; have hne := Nat.ne_of_lt hlt; have z0 := (blk_cell hk 0).trans rfl; have z1 := (blk_cell hk 1).trans rfl; have z2 := (blk_cell hk 2).trans rfl; have y0 := blk_frozen hk 0; have y1 := blk_frozen hk 1; have y2 := blk_frozen hk 2; have PK2 := Aside0.mk hk; have PB2 := Aside0.mk (below_step PB.out hb); clear hk hF hb)
    refine bodyPost_ret (results_ct rfl _ _ w.heap.size 44 #[.int .u8 0, .slice none 0 0, .slice none 0 0] (0, 0) _ rfl (blk_alloc (blk_put (blk_put (blk_put PK2.out 0 _ rfl) 1 _ rfl) 2 _ rfl) _) Tryz.underlying44 rfl (by kernel_rfl)) rfl ?_
    exact ⟨_, rfl, Kd.V_nil _ _ _ _ _, below_alloc (below_set (below_set (below_set PB2.out (Nat.le_refl _)) (Nat.le_refl _)) (Nat.le_refl _)) _⟩
end Go.Proofs.YtncanijjnhkgbaaGreatDoor.PMsgsPut
namespace Go.Proofs.YtncanijjnhkgbaaGreatDoor.PMsgsPut
open Go.RowKit Go.Proofs.YtncanijjnhkgbaaGreatDoorW.PrintWords Go.Proofs.YtncanijjnhkgbaaGreatDoorW.PrintLast Go.Proofs.YtncanijjnhkgbaaGreatDoorW.PrintMore
theorem node_node (t : Int) (A : Option Addr) (n c : Nat) (B : Option Addr) (m d : Nat) (w : World) :
  Calls Tryz.prog 17 #[.iface 44 (.agg #[.int .u8 t, .slice A n c, .slice B m d])] w fun e w' => e = .returned (.tuple #[.agg #[.int .u8 t, .slice A n c, .slice B m d], .bool true]) ∧ Below w.heap.size w w' := by
 have ta0 : ∀ W : World, (Instr.typeAssert (.iface 44 (.agg #[.int .u8 t, .slice A n c, .slice B m d])) 20 44 true).run Tryz.prog W = .ok (.tuple #[.agg #[.int .u8 t, .slice A n c, .slice B m d], .bool true]) W := fun _ => by kernel_rfl
 go_enter Tryz.func17, Tryz.ntmps17
 go_wp2
 refine bodyPost_ret (results_ct rfl _ _ w.heap.size 44 #[.int .u8 t, .slice A n c, .slice B m d] (0, 0) _ rfl (blk_alloc (blk_new _ _) _) Tryz.underlying44 rfl (by kernel_rfl)) rfl ?_
 exact ⟨rfl, below_alloc (below_alloc (Below.refl _ _) _) _⟩
theorem blk_new1 (w : World) (a b : Obj) : ((w.alloc a).alloc b).heap[w.heap.size + 1]? = some b := by
 have h := blk_new (w.alloc a) b
 simp only [World.alloc, Array.size_push] at h ⊢
 exact h
theorem put_true (t : Int) (A : Option Addr) (n c : Nat) (B : Option Addr) (m d : Nat) (w : World) :
  Calls Tryz.prog 50 #[.agg #[.int .u8 t, .slice A n c, .slice B m d], .bool true] w fun e w' => e = .returned (.tuple #[.agg #[.int .u8 t, .slice A n c, .slice B m d], .int .i64 0]) ∧ Below w.heap.size w w' := by
 go_enter Tryz.func50, Tryz.ntmps50
 go_wp2
 refine bodyPost_ret (results_ct rfl _ _ (w.heap.size + 1) 44 #[.int .u8 t, .slice A n c, .slice B m d] (0, 0) _ rfl (blk_new1 _ _ _) Tryz.underlying44 rfl (by kernel_rfl)) rfl ?_
 exact ⟨rfl, below_alloc (below_alloc (Below.refl _ _) _) _⟩
theorem put_false (t : Int) (A : Option Addr) (n c : Nat) (B : Option Addr) (m d : Nat) (w : World) :
  Calls Tryz.prog 50 #[.agg #[.int .u8 t, .slice A n c, .slice B m d], .bool false] w fun e w' => e = .returned (.tuple #[.agg #[.int .u8 0, .slice none 0 0, .slice none 0 0], .int .i64 91]) ∧ Below w.heap.size w w' := by
 go_enter Tryz.func50, Tryz.ntmps50
 go_wp2
 refine bodyPost_ret (results_ct rfl _ _ (w.heap.size + 1) 44 #[.int .u8 0, .slice none 0 0, .slice none 0 0] (0, 0) _ rfl (blk_new1 _ _ _) Tryz.underlying44 rfl (by kernel_rfl)) rfl ?_
 exact ⟨rfl, below_alloc (below_alloc (Below.refl _ _) _) _⟩
def pairX (x0 x1 : Value) (i : Nat) : Value := if i = 0 then x0 else x1
def pairN (n0 n1 : S44) (i : Nat) : S44 := if i = 0 then n0 else n1
theorem seq_nodes (w : World) (gv cv : Nat) (n0 n1 : S44) (A : Option Addr) (c : Nat) (B : Option Addr) (d : Nat) (A' : Option Addr) (c' : Nat) (B' : Option Addr) (d' : Nat) (B0 : Nat) (hB0 : B0 ≤ w.heap.size)
  (h0 : w.cell? ⟨gv, 0, none⟩ = some (.iface 44 (.agg #[.int .u8 n0.f0, .slice A n0.f1.length c, .slice B n0.f2.length d]))) (h1 : w.cell? ⟨gv, 1, none⟩ = some (.iface 44 (.agg #[.int .u8 n1.f0, .slice A' n1.f1.length c', .slice B' n1.f2.length d'])))
  (f0 : Kd.FK k44 w (fun k => B0 ≤ k) n0 (cellsOf n0 A c B d)) (f1 : Kd.FK k44 w (fun k => B0 ≤ k) n1 (cellsOf n1 A' c' B' d')) :
  Calls Tryz.prog 49 #[.int .u8 48, .slice (some ⟨gv, 0, none⟩) 2 cv] w fun e w' => ∃ v : Value, e = .returned (.tuple #[.agg #[.int .u8 48, .slice none 0 0, v], .bool true]) ∧ Kd.V k44 44 w' w.heap.size (fun k => B0 ≤ k) v [n0, n1] ∧ Below w.heap.size w w' := by
 refine seq_calls 2 (by decide) ⟨gv, 0, none⟩ cv (pairX (.iface 44 (.agg #[.int .u8 n0.f0, .slice A n0.f1.length c, .slice B n0.f2.length d])) (.iface 44 (.agg #[.int .u8 n1.f0, .slice A' n1.f1.length c', .slice B' n1.f2.length d']))) (pairN n0 n1) (fun _ => true) B0 w ?_ ?_ hB0
 ·intro i hi
  have : i = 0 ∨ i = 1 := by omega
  rcases this with rfl | rfl
  ·exact h0
  ·exact h1
 ·intro i hi W hb
  have : i = 0 ∨ i = 1 := by omega
  rcases this with rfl | rfl
  ·refine (node_node n0.f0 A n0.f1.length c B n0.f2.length d W).mono ?_
   rintro e w' ⟨rfl, hb'⟩
   exact ⟨A, c, B, d, rfl, Kd.FK_mono (Kd.FK_below (Kd.FK_bound f0) (hb.trans (hb'.mono hb.size))) (fun k hk => .inl hk), hb'⟩
  ·refine (node_node n1.f0 A' n1.f1.length c' B' n1.f2.length d' W).mono ?_
   rintro e w' ⟨rfl, hb'⟩
   exact ⟨A', c', B', d', rfl, Kd.FK_mono (Kd.FK_below (Kd.FK_bound f1) (hb.trans (hb'.mono hb.size))) (fun k hk => .inl hk), hb'⟩
end Go.Proofs.YtncanijjnhkgbaaGreatDoor.PMsgsPut
namespace Go.Proofs.YtncanijjnhkgbaaGreatDoor.PMsgsPut
open Go.RowKit Go.Proofs.YtncanijjnhkgbaaGreatDoorW.PrintWords Go.Proofs.YtncanijjnhkgbaaGreatDoorW.PrintLast Go.Proofs.YtncanijjnhkgbaaGreatDoorW.PrintMore
theorem size_nil (s : ByteArray) : (s.size = 0) = (s.toList = []) := by
 rw [ByteArray.toList_eq]
 apply propext
 constructor
 ·intro h
  exact List.eq_nil_of_length_eq_zero (by simpa using h)
 ·intro h
  have := congrArg List.length h
  simpa using this
set_option maxRecDepth 100000 in
set_option maxHeartbeats 4000000 in
theorem blank_105 (i : Int) (Ab : Option Addr) (cb : Nat) (b : List Int) (r : ByteArray) (Al : Option Addr) (cl : Nat) (l : List ByteArray) (sr : ByteArray) (As : Option Addr) (cs : Nat) (sl : List ByteArray) (e : Int) (w : World) :
  Calls Tryz.prog 18 #[.agg #[.int .i64 i, .slice Ab b.length cb, .string r, .slice Al l.length cl, .string sr, .slice As sl.length cs, .int .i64 e], .int .u8 105] w fun e' w' => e' = .returned (.bool (blankB i b r l sr sl e 105)) ∧ Below w.heap.size w w' := by
 simp only [blankB, princB, size_nil]
 generalize b.length = nb
 generalize l.length = nl
 generalize sl.length = ns
 go_enter Tryz.func18, Tryz.ntmps18
 go_wp2
 all_goals (go_ret; refine ⟨?_, by repeat (first | exact Below.refl _ _ | apply below_alloc)⟩; show Ending.returned (Value.bool _) = _; congr 2; simp [*])
set_option maxRecDepth 100000 in
set_option maxHeartbeats 4000000 in
theorem blank_111 (i : Int) (Ab : Option Addr) (cb : Nat) (b : List Int) (r : ByteArray) (Al : Option Addr) (cl : Nat) (l : List ByteArray) (sr : ByteArray) (As : Option Addr) (cs : Nat) (sl : List ByteArray) (e : Int) (w : World) :
  Calls Tryz.prog 18 #[.agg #[.int .i64 i, .slice Ab b.length cb, .string r, .slice Al l.length cl, .string sr, .slice As sl.length cs, .int .i64 e], .int .u8 111] w fun e' w' => e' = .returned (.bool (blankB i b r l sr sl e 111)) ∧ Below w.heap.size w w' := by
 simp only [blankB, princB, size_nil]
 generalize b.length = nb
 generalize l.length = nl
 generalize sl.length = ns
 go_enter Tryz.func18, Tryz.ntmps18
 go_wp2
 all_goals (go_ret; refine ⟨?_, by repeat (first | exact Below.refl _ _ | apply below_alloc)⟩; show Ending.returned (Value.bool _) = _; congr 2; simp [*])
set_option maxRecDepth 100000 in
set_option maxHeartbeats 4000000 in
theorem blank_112 (i : Int) (Ab : Option Addr) (cb : Nat) (b : List Int) (r : ByteArray) (Al : Option Addr) (cl : Nat) (l : List ByteArray) (sr : ByteArray) (As : Option Addr) (cs : Nat) (sl : List ByteArray) (e : Int) (w : World) :
  Calls Tryz.prog 18 #[.agg #[.int .i64 i, .slice Ab b.length cb, .string r, .slice Al l.length cl, .string sr, .slice As sl.length cs, .int .i64 e], .int .u8 112] w fun e' w' => e' = .returned (.bool (blankB i b r l sr sl e 112)) ∧ Below w.heap.size w w' := by
 simp only [blankB, princB, size_nil]
 generalize b.length = nb
 generalize l.length = nl
 generalize sl.length = ns
 go_enter Tryz.func18, Tryz.ntmps18
 go_wp2
 all_goals (go_ret; refine ⟨?_, by repeat (first | exact Below.refl _ _ | apply below_alloc)⟩; show Ending.returned (Value.bool _) = _; congr 2; simp [*])
set_option maxRecDepth 100000 in
set_option maxHeartbeats 4000000 in
theorem blank_107 (i : Int) (Ab : Option Addr) (cb : Nat) (b : List Int) (r : ByteArray) (Al : Option Addr) (cl : Nat) (l : List ByteArray) (sr : ByteArray) (As : Option Addr) (cs : Nat) (sl : List ByteArray) (e : Int) (w : World) :
  Calls Tryz.prog 18 #[.agg #[.int .i64 i, .slice Ab b.length cb, .string r, .slice Al l.length cl, .string sr, .slice As sl.length cs, .int .i64 e], .int .u8 107] w fun e' w' => e' = .returned (.bool (blankB i b r l sr sl e 107)) ∧ Below w.heap.size w w' := by
 simp only [blankB, princB, size_nil]
 generalize b.length = nb
 generalize l.length = nl
 generalize sl.length = ns
 go_enter Tryz.func18, Tryz.ntmps18
 go_wp2
 all_goals (go_ret; refine ⟨?_, by repeat (first | exact Below.refl _ _ | apply below_alloc)⟩; show Ending.returned (Value.bool _) = _; congr 2; simp [*])
end Go.Proofs.YtncanijjnhkgbaaGreatDoor.PMsgsPut
namespace Go.Proofs.YtncanijjnhkgbaaGreatDoor.PMsgsPut
open Go.RowKit Go.Proofs.YtncanijjnhkgbaaGreatDoorW.PrintWords Go.Proofs.YtncanijjnhkgbaaGreatDoorW.PrintLast Go.Proofs.YtncanijjnhkgbaaGreatDoorW.PrintMore
theorem far3 {α : Type} {d : Kd α} {e base g : Nat} {W : World} {ok : Nat → Prop} {v : Value} {xs : List α} (h : Kd.V d e W base ok v xs) (hne : ∀ k, ok k → k ≠ g) (u0 u1 u2 : Value) : Kd.V d e (((W.setCell ⟨g, 0, none⟩ u0).setCell ⟨g, 1, none⟩ u1).setCell ⟨g, 2, none⟩ u2) base ok v xs :=
 Kd.V_far (Kd.V_far (Kd.V_far h hne u0) hne u1) hne u2
theorem set3 {g : Nat} {w W : World} (h : Below w.heap.size w W) (hg : w.heap.size ≤ g) (u0 u1 u2 : Value) : Below w.heap.size w (((W.setCell ⟨g, 0, none⟩ u0).setCell ⟨g, 1, none⟩ u1).setCell ⟨g, 2, none⟩ u2) :=
 below_set (below_set (below_set h hg) hg) hg
theorem put3 {g t : Nat} {W : World} {a b c : Value} (h : W.heap[g]? = some (.cells #[a, b, c] t)) (u0 u1 u2 : Value) : (((W.setCell ⟨g, 0, none⟩ u0).setCell ⟨g, 1, none⟩ u1).setCell ⟨g, 2, none⟩ u2).heap[g]? = some (.cells #[u0, u1, u2] t) :=
 blk_put (blk_put (blk_put h 0 u0 rfl) 1 u1 rfl) 2 u2 rfl
theorem off3 {g h t : Nat} {W : World} {cs : Array Value} (hk : W.heap[g]? = some (.cells cs t)) (hne : g ≠ h) (u0 u1 u2 : Value) : (((W.setCell ⟨h, 0, none⟩ u0).setCell ⟨h, 1, none⟩ u1).setCell ⟨h, 2, none⟩ u2).heap[g]? = some (.cells cs t) :=
 blk_far (blk_far (blk_far hk hne u0) hne u1) hne u2
def start3 (w : World) (bx : Array Value) : World := ((w.alloc (.cells bx 36)).alloc (.cells #[.int .u8 0, .slice none 0 0, .slice none 0 0] 44)).alloc (.cells #[.int .u8 0, .slice none 0 0, .slice none 0 0] 44)
theorem start3_size (w : World) (bx : Array Value) : (start3 w bx).heap.size = w.heap.size + 3 := by
 simp only [start3, World.alloc, Array.size_push]
theorem start3_below (w : World) (bx : Array Value) : Below w.heap.size w (start3 w bx) := below_alloc (below_alloc (below_alloc (Below.refl _ _) _) _) _
theorem start3_0 (w : World) (bx : Array Value) : (start3 w bx).heap[w.heap.size]? = some (.cells bx 36) := blk_alloc (blk_alloc (blk_new _ _) _) _
theorem start3_1 (w : World) (bx : Array Value) : (start3 w bx).heap[w.heap.size + 1]? = some (.cells #[.int .u8 0, .slice none 0 0, .slice none 0 0] 44) := by
 have h := blk_new (w.alloc (.cells bx 36)) (.cells #[.int .u8 0, .slice none 0 0, .slice none 0 0] 44)
 have h2 := blk_alloc h (.cells #[.int .u8 0, .slice none 0 0, .slice none 0 0] 44)
 simp only [start3, World.alloc, Array.size_push] at h2 ⊢
 exact h2
theorem start3_2 (w : World) (bx : Array Value) : (start3 w bx).heap[w.heap.size + 2]? = some (.cells #[.int .u8 0, .slice none 0 0, .slice none 0 0] 44) := by
 have h := blk_new ((w.alloc (.cells bx 36)).alloc (.cells #[.int .u8 0, .slice none 0 0, .slice none 0 0] 44)) (.cells #[.int .u8 0, .slice none 0 0, .slice none 0 0] 44)
 simp only [start3, World.alloc, Array.size_push] at h ⊢
 exact h
set_option maxHeartbeats 8000000 in
set_option maxRecDepth 100000 in
theorem state_int (T : Int) (body : List Int) (kids : List S44) (i : Int) (Ab : Option Addr) (cb : Nat) (b : List Int) (r : ByteArray) (Al : Option Addr) (cl : Nat) (l : List ByteArray) (sr : ByteArray) (As : Option Addr) (cs : Nat) (sl : List ByteArray) (e : Int) (w : World)
  (hN : ∀ W, Below w.heap.size w W → Calls Tryz.prog 17 #[.iface 2 (.int .i64 i)] W fun e' w' => ∃ v1 v2 : Value, e' = .returned (.tuple #[.agg #[.int .u8 T, v1, v2], .bool true]) ∧ Kd.V (Kd.int .u8) 5 w' W.heap.size (fun k => W.heap.size ≤ k) v1 body ∧ Kd.V k44 44 w' W.heap.size (fun k => W.heap.size ≤ k) v2 kids ∧ Below W.heap.size W w') :
  Calls Tryz.prog 9 #[anyV 0, .agg #[.int .i64 i, .slice Ab b.length cb, .string r, .slice Al l.length cl, .string sr, .slice As sl.length cs, .int .i64 e]] w fun e' w' => ∃ v1 v2 : Value, e' = .returned (.tuple #[.agg #[.int .u8 T, v1, v2], .bool (blankB i b r l sr sl e 105)]) ∧ Kd.V (Kd.int .u8) 5 w' w.heap.size (fun k => w.heap.size ≤ k) v1 body ∧ Kd.V k44 44 w' w.heap.size (fun k => w.heap.size ≤ k) v2 kids ∧ Below w.heap.size w w' := by
 have PN := Aside0.mk hN
 have PB := Aside0.mk (fun W => blank_105 i Ab cb b r Al cl l sr As cs sl e W)
 have t0 := any_ta0_0
 generalize blankB i b r l sr sl e 105 = P at PB ⊢
 generalize b.length = nb at PN PB ⊢
 generalize l.length = nl at PN PB ⊢
 generalize sl.length = ns at PN PB ⊢
 obtain ⟨X, hX⟩ : ∃ X, X = anyV 0 := ⟨_, rfl⟩
 rw [← hX] at t0 ⊢
 clear hX hN
 go_enter Tryz.func9, Tryz.ntmps9
 go_wp2_with (go_at_call 17; refine (PN.out _ (start3_below w #[.int .i64 i, .slice Ab nb cb, .string r, .slice Al nl cl, .string sr, .slice As ns cs, .int .i64 e])).mono ?_; rintro e' w1 ⟨v1, v2, rfl, hV1, hV2, hb⟩; obtain ⟨A1, c1, rfl⟩ := Kd.V_slice hV1; obtain ⟨A2, c2, rfl⟩ := Kd.V_slice hV2; generalize hm1 : body.length = m1 at hV1 ⊢; generalize hm2 : kids.length = m2 at hV2 ⊢; have P1 := Aside0.mk (And.intro hV1 (And.intro hV2 hb)); clear hV1 hV2 hb hm1 hm2)
 obtain ⟨o, ho⟩ : ∃ o, Obj.cells #[.int .u8 T, .slice A1 m1 c1, .slice A2 m2 c2] 44 = o := ⟨_, rfl⟩
 have kb := blk_alloc (blk_below (start3_0 w #[.int .i64 i, .slice Ab nb cb, .string r, .slice Al nl cl, .string sr, .slice As ns cs, .int .i64 e]) P1.out.2.2) o
 have kr := blk_alloc (blk_below (start3_1 w #[.int .i64 i, .slice Ab nb cb, .string r, .slice Al nl cl, .string sr, .slice As ns cs, .int .i64 e]) P1.out.2.2) o
 have kn := blk_new w1 o
 have hlt : w.heap.size + 2 < w1.heap.size := blk_lt (blk_below (start3_2 w #[.int .i64 i, .slice Ab nb cb, .string r, .slice Al nl cl, .string sr, .slice As ns cs, .int .i64 e]) P1.out.2.2)
 have hV1 := Kd.V_alloc P1.out.1 o
 have hV2 := Kd.V_alloc P1.out.2.1 o
 have hB := below_alloc (below_step (start3_below w #[.int .i64 i, .slice Ab nb cb, .string r, .slice Al nl cl, .string sr, .slice As ns cs, .int .i64 e]) P1.out.2.2) o
 rw [ho]
 generalize w1.alloc o = W at kb kr kn hV1 hV2 hB ⊢
 rw [← ho] at kn
 clear ho
 have b0 : W.cell? ⟨w.heap.size, 0, none⟩ = some (.int .i64 i) := (blk_cell kb 0).trans rfl
 have b1 : W.cell? ⟨w.heap.size, 1, none⟩ = some (.slice Ab nb cb) := (blk_cell kb 1).trans rfl
 have b2 : W.cell? ⟨w.heap.size, 2, none⟩ = some (.string r) := (blk_cell kb 2).trans rfl
 have b3 : W.cell? ⟨w.heap.size, 3, none⟩ = some (.slice Al nl cl) := (blk_cell kb 3).trans rfl
 have b4 : W.cell? ⟨w.heap.size, 4, none⟩ = some (.string sr) := (blk_cell kb 4).trans rfl
 have b5 : W.cell? ⟨w.heap.size, 5, none⟩ = some (.slice As ns cs) := (blk_cell kb 5).trans rfl
 have b6 : W.cell? ⟨w.heap.size, 6, none⟩ = some (.int .i64 e) := (blk_cell kb 6).trans rfl
 have x0 : W.cell? ⟨w1.heap.size, 0, none⟩ = some (.int .u8 T) := (blk_cell kn 0).trans rfl
 have x1 : W.cell? ⟨w1.heap.size, 1, none⟩ = some (.slice A1 m1 c1) := (blk_cell kn 1).trans rfl
 have x2 : W.cell? ⟨w1.heap.size, 2, none⟩ = some (.slice A2 m2 c2) := (blk_cell kn 2).trans rfl
 have r0 := (blk_cell kr 0).trans rfl
 have y0 := blk_frozen kr 0
 have r1 := (blk_cell kr 1).trans rfl
 have y1 := blk_frozen kr 1
 have r2 := (blk_cell kr 2).trans rfl
 have y2 := blk_frozen kr 2
 have PK := Aside0.mk (And.intro (fun (w' : World) (hb : Below W.heap.size W w') => blk_below kr hb) (And.intro (fun (w' : World) (hb : Below W.heap.size W w') => blk_below kb hb) (And.intro (fun (w' : World) (hb : Below W.heap.size W w') => blk_below kn hb) (And.intro hV1 (And.intro hV2 hB)))))
 have PW0 := Aside0.mk (And.intro (Below.refl W.heap.size W) kr)
 have hne : w.heap.size + 1 ≠ w1.heap.size := by omega
 have hne2 := hne.symm
 have hne3 : w.heap.size ≠ w1.heap.size := by omega
 have hne4 := hne3.symm
 clear kb kr kn hV1 hV2 hB P1 hlt
 go_region_held3 (fun w' => w'.cell? ⟨w.heap.size, 0, none⟩ = some (.int .i64 i) ∧ w'.cell? ⟨w.heap.size, 1, none⟩ = some (.slice Ab nb cb) ∧ w'.cell? ⟨w.heap.size, 2, none⟩ = some (.string r) ∧ w'.cell? ⟨w.heap.size, 3, none⟩ = some (.slice Al nl cl) ∧ w'.cell? ⟨w.heap.size, 4, none⟩ = some (.string sr) ∧ w'.cell? ⟨w.heap.size, 5, none⟩ = some (.slice As ns cs) ∧ w'.cell? ⟨w.heap.size, 6, none⟩ = some (.int .i64 e) ∧ w'.cell? ⟨w1.heap.size, 0, none⟩ = some (.int .u8 T) ∧ w'.cell? ⟨w1.heap.size, 1, none⟩ = some (.slice A1 m1 c1) ∧ w'.cell? ⟨w1.heap.size, 2, none⟩ = some (.slice A2 m2 c2)) (go_keep) (first | (go_at_call 18; refine (PB.out _).mono ?_; rintro e' w' ⟨rfl, hb⟩; have hbW : Below W.heap.size W w' := (by first | exact hb | exact below_step (below_drew1 (Below.refl _ _)) hb); have kb2 := PK.out.2.1 w' hbW; have kr2 := PK.out.1 w' hbW; have kn2 := PK.out.2.2.1 w' hbW; have b20 := (blk_cell kb2 0).trans rfl; have b21 := (blk_cell kb2 1).trans rfl; have b22 := (blk_cell kb2 2).trans rfl; have b23 := (blk_cell kb2 3).trans rfl; have b24 := (blk_cell kb2 4).trans rfl; have b25 := (blk_cell kb2 5).trans rfl; have b26 := (blk_cell kb2 6).trans rfl; have x20 := (blk_cell kn2 0).trans rfl; have r20 := (blk_cell kr2 0).trans rfl; have y20 := blk_frozen kr2 0; have x21 := (blk_cell kn2 1).trans rfl; have r21 := (blk_cell kr2 1).trans rfl; have y21 := blk_frozen kr2 1; have x22 := (blk_cell kn2 2).trans rfl; have r22 := (blk_cell kr2 2).trans rfl; have y22 := blk_frozen kr2 2; have PW := Aside0.mk (And.intro hbW kr2); clear hb hbW kb2 kr2 kn2))
 go_wp2
 have kf := put3 PW.out.2 (.int .u8 T) (.slice A1 m1 c1) (.slice A2 m2 c2)
 refine bodyPost_ret (results_ct rfl _ _ (w.heap.size + 1) 44 #[.int .u8 T, .slice A1 m1 c1, .slice A2 m2 c2] (0, 0) _ rfl (by first | exact kf | exact blk_drew kf) Tryz.underlying44 rfl (by kernel_rfl)) rfl ?_
 have hk1 : ∀ k, (start3 w #[.int .i64 i, .slice Ab nb cb, .string r, .slice Al nl cl, .string sr, .slice As ns cs, .int .i64 e]).heap.size ≤ k → k ≠ w.heap.size + 1 := fun k hk => by rw [start3_size] at hk; omega
 have hk2 : ∀ k, (start3 w #[.int .i64 i, .slice Ab nb cb, .string r, .slice Al nl cl, .string sr, .slice As ns cs, .int .i64 e]).heap.size ≤ k → w.heap.size ≤ k := fun k hk => by rw [start3_size] at hk; omega
 have q1 := far3 (Kd.V_below PK.out.2.2.2.1 PW.out.1) hk1 (.int .u8 T) (.slice A1 m1 c1) (.slice A2 m2 c2)
 have q2 := far3 (Kd.V_below PK.out.2.2.2.2.1 PW.out.1) hk1 (.int .u8 T) (.slice A1 m1 c1) (.slice A2 m2 c2)
 have q3 := set3 (below_step PK.out.2.2.2.2.2 PW.out.1) (Nat.le_succ w.heap.size) (.int .u8 T) (.slice A1 m1 c1) (.slice A2 m2 c2)
 exact ⟨_, _, rfl, by first | exact Kd.V_mono q1 hk2 | exact Kd.V_drew (Kd.V_mono q1 hk2), by first | exact Kd.V_mono q2 hk2 | exact Kd.V_drew (Kd.V_mono q2 hk2), by first | exact q3 | exact below_drew1 q3⟩
set_option maxHeartbeats 8000000 in
set_option maxRecDepth 100000 in
theorem state_time (T : Int) (body : List Int) (kids : List S44) (i : Int) (Ab : Option Addr) (cb : Nat) (b : List Int) (r : ByteArray) (Al : Option Addr) (cl : Nat) (l : List ByteArray) (sr : ByteArray) (As : Option Addr) (cs : Nat) (sl : List ByteArray) (e : Int) (w : World)
  (hN : ∀ W, Below w.heap.size w W → Calls Tryz.prog 17 #[.iface 54 (.int .i64 i)] W fun e' w' => ∃ v1 v2 : Value, e' = .returned (.tuple #[.agg #[.int .u8 T, v1, v2], .bool true]) ∧ Kd.V (Kd.int .u8) 5 w' W.heap.size (fun k => W.heap.size ≤ k) v1 body ∧ Kd.V k44 44 w' W.heap.size (fun k => W.heap.size ≤ k) v2 kids ∧ Below W.heap.size W w') :
  Calls Tryz.prog 9 #[anyV 2, .agg #[.int .i64 i, .slice Ab b.length cb, .string r, .slice Al l.length cl, .string sr, .slice As sl.length cs, .int .i64 e]] w fun e' w' => ∃ v1 v2 : Value, e' = .returned (.tuple #[.agg #[.int .u8 T, v1, v2], .bool (blankB i b r l sr sl e 105)]) ∧ Kd.V (Kd.int .u8) 5 w' w.heap.size (fun k => w.heap.size ≤ k) v1 body ∧ Kd.V k44 44 w' w.heap.size (fun k => w.heap.size ≤ k) v2 kids ∧ Below w.heap.size w w' := by
 have PN := Aside0.mk hN
 have PB := Aside0.mk (fun W => blank_105 i Ab cb b r Al cl l sr As cs sl e W)
 have t0 := any_ta2_0
 have t1 := any_ta2_1
 have t2 := any_ta2_2
 generalize blankB i b r l sr sl e 105 = P at PB ⊢
 generalize b.length = nb at PN PB ⊢
 generalize l.length = nl at PN PB ⊢
 generalize sl.length = ns at PN PB ⊢
 obtain ⟨X, hX⟩ : ∃ X, X = anyV 2 := ⟨_, rfl⟩
 rw [← hX] at t0 t1 t2 ⊢
 clear hX hN
 go_enter Tryz.func9, Tryz.ntmps9
 go_wp2_with (go_at_call 17; refine (PN.out _ (start3_below w #[.int .i64 i, .slice Ab nb cb, .string r, .slice Al nl cl, .string sr, .slice As ns cs, .int .i64 e])).mono ?_; rintro e' w1 ⟨v1, v2, rfl, hV1, hV2, hb⟩; obtain ⟨A1, c1, rfl⟩ := Kd.V_slice hV1; obtain ⟨A2, c2, rfl⟩ := Kd.V_slice hV2; generalize hm1 : body.length = m1 at hV1 ⊢; generalize hm2 : kids.length = m2 at hV2 ⊢; have P1 := Aside0.mk (And.intro hV1 (And.intro hV2 hb)); clear hV1 hV2 hb hm1 hm2)
 obtain ⟨o, ho⟩ : ∃ o, Obj.cells #[.int .u8 T, .slice A1 m1 c1, .slice A2 m2 c2] 44 = o := ⟨_, rfl⟩
 have kb := blk_alloc (blk_below (start3_0 w #[.int .i64 i, .slice Ab nb cb, .string r, .slice Al nl cl, .string sr, .slice As ns cs, .int .i64 e]) P1.out.2.2) o
 have kr := blk_alloc (blk_below (start3_1 w #[.int .i64 i, .slice Ab nb cb, .string r, .slice Al nl cl, .string sr, .slice As ns cs, .int .i64 e]) P1.out.2.2) o
 have kn := blk_new w1 o
 have hlt : w.heap.size + 2 < w1.heap.size := blk_lt (blk_below (start3_2 w #[.int .i64 i, .slice Ab nb cb, .string r, .slice Al nl cl, .string sr, .slice As ns cs, .int .i64 e]) P1.out.2.2)
 have hV1 := Kd.V_alloc P1.out.1 o
 have hV2 := Kd.V_alloc P1.out.2.1 o
 have hB := below_alloc (below_step (start3_below w #[.int .i64 i, .slice Ab nb cb, .string r, .slice Al nl cl, .string sr, .slice As ns cs, .int .i64 e]) P1.out.2.2) o
 rw [ho]
 generalize w1.alloc o = W at kb kr kn hV1 hV2 hB ⊢
 rw [← ho] at kn
 clear ho
 have b0 : W.cell? ⟨w.heap.size, 0, none⟩ = some (.int .i64 i) := (blk_cell kb 0).trans rfl
 have b1 : W.cell? ⟨w.heap.size, 1, none⟩ = some (.slice Ab nb cb) := (blk_cell kb 1).trans rfl
 have b2 : W.cell? ⟨w.heap.size, 2, none⟩ = some (.string r) := (blk_cell kb 2).trans rfl
 have b3 : W.cell? ⟨w.heap.size, 3, none⟩ = some (.slice Al nl cl) := (blk_cell kb 3).trans rfl
 have b4 : W.cell? ⟨w.heap.size, 4, none⟩ = some (.string sr) := (blk_cell kb 4).trans rfl
 have b5 : W.cell? ⟨w.heap.size, 5, none⟩ = some (.slice As ns cs) := (blk_cell kb 5).trans rfl
 have b6 : W.cell? ⟨w.heap.size, 6, none⟩ = some (.int .i64 e) := (blk_cell kb 6).trans rfl
 have x0 : W.cell? ⟨w1.heap.size, 0, none⟩ = some (.int .u8 T) := (blk_cell kn 0).trans rfl
 have x1 : W.cell? ⟨w1.heap.size, 1, none⟩ = some (.slice A1 m1 c1) := (blk_cell kn 1).trans rfl
 have x2 : W.cell? ⟨w1.heap.size, 2, none⟩ = some (.slice A2 m2 c2) := (blk_cell kn 2).trans rfl
 have r0 := (blk_cell kr 0).trans rfl
 have y0 := blk_frozen kr 0
 have r1 := (blk_cell kr 1).trans rfl
 have y1 := blk_frozen kr 1
 have r2 := (blk_cell kr 2).trans rfl
 have y2 := blk_frozen kr 2
 have PK := Aside0.mk (And.intro (fun (w' : World) (hb : Below W.heap.size W w') => blk_below kr hb) (And.intro (fun (w' : World) (hb : Below W.heap.size W w') => blk_below kb hb) (And.intro (fun (w' : World) (hb : Below W.heap.size W w') => blk_below kn hb) (And.intro hV1 (And.intro hV2 hB)))))
 have PW0 := Aside0.mk (And.intro (Below.refl W.heap.size W) kr)
 have hne : w.heap.size + 1 ≠ w1.heap.size := by omega
 have hne2 := hne.symm
 have hne3 : w.heap.size ≠ w1.heap.size := by omega
 have hne4 := hne3.symm
 clear kb kr kn hV1 hV2 hB P1 hlt
 go_region_held3 (fun w' => w'.cell? ⟨w.heap.size, 0, none⟩ = some (.int .i64 i) ∧ w'.cell? ⟨w.heap.size, 1, none⟩ = some (.slice Ab nb cb) ∧ w'.cell? ⟨w.heap.size, 2, none⟩ = some (.string r) ∧ w'.cell? ⟨w.heap.size, 3, none⟩ = some (.slice Al nl cl) ∧ w'.cell? ⟨w.heap.size, 4, none⟩ = some (.string sr) ∧ w'.cell? ⟨w.heap.size, 5, none⟩ = some (.slice As ns cs) ∧ w'.cell? ⟨w.heap.size, 6, none⟩ = some (.int .i64 e) ∧ w'.cell? ⟨w1.heap.size, 0, none⟩ = some (.int .u8 T) ∧ w'.cell? ⟨w1.heap.size, 1, none⟩ = some (.slice A1 m1 c1) ∧ w'.cell? ⟨w1.heap.size, 2, none⟩ = some (.slice A2 m2 c2)) (go_keep) (first | (go_at_call 18; refine (PB.out _).mono ?_; rintro e' w' ⟨rfl, hb⟩; have hbW : Below W.heap.size W w' := (by first | exact hb | exact below_step (below_drew1 (Below.refl _ _)) hb); have kb2 := PK.out.2.1 w' hbW; have kr2 := PK.out.1 w' hbW; have kn2 := PK.out.2.2.1 w' hbW; have b20 := (blk_cell kb2 0).trans rfl; have b21 := (blk_cell kb2 1).trans rfl; have b22 := (blk_cell kb2 2).trans rfl; have b23 := (blk_cell kb2 3).trans rfl; have b24 := (blk_cell kb2 4).trans rfl; have b25 := (blk_cell kb2 5).trans rfl; have b26 := (blk_cell kb2 6).trans rfl; have x20 := (blk_cell kn2 0).trans rfl; have r20 := (blk_cell kr2 0).trans rfl; have y20 := blk_frozen kr2 0; have x21 := (blk_cell kn2 1).trans rfl; have r21 := (blk_cell kr2 1).trans rfl; have y21 := blk_frozen kr2 1; have x22 := (blk_cell kn2 2).trans rfl; have r22 := (blk_cell kr2 2).trans rfl; have y22 := blk_frozen kr2 2; have PW := Aside0.mk (And.intro hbW kr2); clear hb hbW kb2 kr2 kn2))
 go_wp2
 have kf := put3 PW.out.2 (.int .u8 T) (.slice A1 m1 c1) (.slice A2 m2 c2)
 refine bodyPost_ret (results_ct rfl _ _ (w.heap.size + 1) 44 #[.int .u8 T, .slice A1 m1 c1, .slice A2 m2 c2] (0, 0) _ rfl (by first | exact kf | exact blk_drew kf) Tryz.underlying44 rfl (by kernel_rfl)) rfl ?_
 have hk1 : ∀ k, (start3 w #[.int .i64 i, .slice Ab nb cb, .string r, .slice Al nl cl, .string sr, .slice As ns cs, .int .i64 e]).heap.size ≤ k → k ≠ w.heap.size + 1 := fun k hk => by rw [start3_size] at hk; omega
 have hk2 : ∀ k, (start3 w #[.int .i64 i, .slice Ab nb cb, .string r, .slice Al nl cl, .string sr, .slice As ns cs, .int .i64 e]).heap.size ≤ k → w.heap.size ≤ k := fun k hk => by rw [start3_size] at hk; omega
 have q1 := far3 (Kd.V_below PK.out.2.2.2.1 PW.out.1) hk1 (.int .u8 T) (.slice A1 m1 c1) (.slice A2 m2 c2)
 have q2 := far3 (Kd.V_below PK.out.2.2.2.2.1 PW.out.1) hk1 (.int .u8 T) (.slice A1 m1 c1) (.slice A2 m2 c2)
 have q3 := set3 (below_step PK.out.2.2.2.2.2 PW.out.1) (Nat.le_succ w.heap.size) (.int .u8 T) (.slice A1 m1 c1) (.slice A2 m2 c2)
 exact ⟨_, _, rfl, by first | exact Kd.V_mono q1 hk2 | exact Kd.V_drew (Kd.V_mono q1 hk2), by first | exact Kd.V_mono q2 hk2 | exact Kd.V_drew (Kd.V_mono q2 hk2), by first | exact q3 | exact below_drew1 q3⟩
set_option maxHeartbeats 8000000 in
set_option maxRecDepth 100000 in
theorem state_time_no (T : Int) (body : List Int) (kids : List S44) (i : Int) (Ab : Option Addr) (cb : Nat) (b : List Int) (r : ByteArray) (Al : Option Addr) (cl : Nat) (l : List ByteArray) (sr : ByteArray) (As : Option Addr) (cs : Nat) (sl : List ByteArray) (e : Int) (w : World)
  (hN : ∀ W, Below w.heap.size w W → Calls Tryz.prog 17 #[.iface 54 (.int .i64 i)] W fun e' w' => ∃ v1 v2 : Value, e' = .returned (.tuple #[.agg #[.int .u8 T, v1, v2], .bool false]) ∧ Kd.V (Kd.int .u8) 5 w' W.heap.size (fun k => W.heap.size ≤ k) v1 body ∧ Kd.V k44 44 w' W.heap.size (fun k => W.heap.size ≤ k) v2 kids ∧ Below W.heap.size W w') :
  Calls Tryz.prog 9 #[anyV 2, .agg #[.int .i64 i, .slice Ab b.length cb, .string r, .slice Al l.length cl, .string sr, .slice As sl.length cs, .int .i64 e]] w fun e' w' => ∃ v1 v2 : Value, e' = .returned (.tuple #[.agg #[.int .u8 T, v1, v2], .bool false]) ∧ Kd.V (Kd.int .u8) 5 w' w.heap.size (fun k => w.heap.size ≤ k) v1 body ∧ Kd.V k44 44 w' w.heap.size (fun k => w.heap.size ≤ k) v2 kids ∧ Below w.heap.size w w' := by
 have PN := Aside0.mk hN
 have t0 := any_ta2_0
 have t1 := any_ta2_1
 have t2 := any_ta2_2
 generalize b.length = nb at PN ⊢
 generalize l.length = nl at PN ⊢
 generalize sl.length = ns at PN ⊢
 obtain ⟨X, hX⟩ : ∃ X, X = anyV 2 := ⟨_, rfl⟩
 rw [← hX] at t0 t1 t2 ⊢
 clear hX hN
 go_enter Tryz.func9, Tryz.ntmps9
 go_wp2_with (go_at_call 17; refine (PN.out _ (start3_below w #[.int .i64 i, .slice Ab nb cb, .string r, .slice Al nl cl, .string sr, .slice As ns cs, .int .i64 e])).mono ?_; rintro e' w1 ⟨v1, v2, rfl, hV1, hV2, hb⟩; obtain ⟨A1, c1, rfl⟩ := Kd.V_slice hV1; obtain ⟨A2, c2, rfl⟩ := Kd.V_slice hV2; generalize hm1 : body.length = m1 at hV1 ⊢; generalize hm2 : kids.length = m2 at hV2 ⊢; have P1 := Aside0.mk (And.intro hV1 (And.intro hV2 hb)); clear hV1 hV2 hb hm1 hm2)
 obtain ⟨o, ho⟩ : ∃ o, Obj.cells #[.int .u8 T, .slice A1 m1 c1, .slice A2 m2 c2] 44 = o := ⟨_, rfl⟩
 have kb := blk_alloc (blk_below (start3_0 w #[.int .i64 i, .slice Ab nb cb, .string r, .slice Al nl cl, .string sr, .slice As ns cs, .int .i64 e]) P1.out.2.2) o
 have kr := blk_alloc (blk_below (start3_1 w #[.int .i64 i, .slice Ab nb cb, .string r, .slice Al nl cl, .string sr, .slice As ns cs, .int .i64 e]) P1.out.2.2) o
 have kn := blk_new w1 o
 have hlt : w.heap.size + 2 < w1.heap.size := blk_lt (blk_below (start3_2 w #[.int .i64 i, .slice Ab nb cb, .string r, .slice Al nl cl, .string sr, .slice As ns cs, .int .i64 e]) P1.out.2.2)
 have hV1 := Kd.V_alloc P1.out.1 o
 have hV2 := Kd.V_alloc P1.out.2.1 o
 have hB := below_alloc (below_step (start3_below w #[.int .i64 i, .slice Ab nb cb, .string r, .slice Al nl cl, .string sr, .slice As ns cs, .int .i64 e]) P1.out.2.2) o
 rw [ho]
 generalize w1.alloc o = W at kb kr kn hV1 hV2 hB ⊢
 rw [← ho] at kn
 clear ho
 have b0 : W.cell? ⟨w.heap.size, 0, none⟩ = some (.int .i64 i) := (blk_cell kb 0).trans rfl
 have b1 : W.cell? ⟨w.heap.size, 1, none⟩ = some (.slice Ab nb cb) := (blk_cell kb 1).trans rfl
 have b2 : W.cell? ⟨w.heap.size, 2, none⟩ = some (.string r) := (blk_cell kb 2).trans rfl
 have b3 : W.cell? ⟨w.heap.size, 3, none⟩ = some (.slice Al nl cl) := (blk_cell kb 3).trans rfl
 have b4 : W.cell? ⟨w.heap.size, 4, none⟩ = some (.string sr) := (blk_cell kb 4).trans rfl
 have b5 : W.cell? ⟨w.heap.size, 5, none⟩ = some (.slice As ns cs) := (blk_cell kb 5).trans rfl
 have b6 : W.cell? ⟨w.heap.size, 6, none⟩ = some (.int .i64 e) := (blk_cell kb 6).trans rfl
 have x0 : W.cell? ⟨w1.heap.size, 0, none⟩ = some (.int .u8 T) := (blk_cell kn 0).trans rfl
 have x1 : W.cell? ⟨w1.heap.size, 1, none⟩ = some (.slice A1 m1 c1) := (blk_cell kn 1).trans rfl
 have x2 : W.cell? ⟨w1.heap.size, 2, none⟩ = some (.slice A2 m2 c2) := (blk_cell kn 2).trans rfl
 have r0 := (blk_cell kr 0).trans rfl
 have y0 := blk_frozen kr 0
 have r1 := (blk_cell kr 1).trans rfl
 have y1 := blk_frozen kr 1
 have r2 := (blk_cell kr 2).trans rfl
 have y2 := blk_frozen kr 2
 have PK := Aside0.mk (And.intro (fun (w' : World) (hb : Below W.heap.size W w') => blk_below kr hb) (And.intro (fun (w' : World) (hb : Below W.heap.size W w') => blk_below kb hb) (And.intro (fun (w' : World) (hb : Below W.heap.size W w') => blk_below kn hb) (And.intro hV1 (And.intro hV2 hB)))))
 have PW0 := Aside0.mk (And.intro (Below.refl W.heap.size W) kr)
 have hne : w.heap.size + 1 ≠ w1.heap.size := by omega
 have hne2 := hne.symm
 have hne3 : w.heap.size ≠ w1.heap.size := by omega
 have hne4 := hne3.symm
 clear kb kr kn hV1 hV2 hB P1 hlt
 go_region
 go_wp2
 have kf := put3 PW0.out.2 (.int .u8 T) (.slice A1 m1 c1) (.slice A2 m2 c2)
 refine bodyPost_ret (results_ct rfl _ _ (w.heap.size + 1) 44 #[.int .u8 T, .slice A1 m1 c1, .slice A2 m2 c2] (0, 0) _ rfl (by first | exact kf | exact blk_drew kf) Tryz.underlying44 rfl (by kernel_rfl)) rfl ?_
 have hk1 : ∀ k, (start3 w #[.int .i64 i, .slice Ab nb cb, .string r, .slice Al nl cl, .string sr, .slice As ns cs, .int .i64 e]).heap.size ≤ k → k ≠ w.heap.size + 1 := fun k hk => by rw [start3_size] at hk; omega
 have hk2 : ∀ k, (start3 w #[.int .i64 i, .slice Ab nb cb, .string r, .slice Al nl cl, .string sr, .slice As ns cs, .int .i64 e]).heap.size ≤ k → w.heap.size ≤ k := fun k hk => by rw [start3_size] at hk; omega
 have q1 := far3 (Kd.V_below PK.out.2.2.2.1 PW0.out.1) hk1 (.int .u8 T) (.slice A1 m1 c1) (.slice A2 m2 c2)
 have q2 := far3 (Kd.V_below PK.out.2.2.2.2.1 PW0.out.1) hk1 (.int .u8 T) (.slice A1 m1 c1) (.slice A2 m2 c2)
 have q3 := set3 (below_step PK.out.2.2.2.2.2 PW0.out.1) (Nat.le_succ w.heap.size) (.int .u8 T) (.slice A1 m1 c1) (.slice A2 m2 c2)
 exact ⟨_, _, rfl, by first | exact Kd.V_mono q1 hk2 | exact Kd.V_drew (Kd.V_mono q1 hk2), by first | exact Kd.V_mono q2 hk2 | exact Kd.V_drew (Kd.V_mono q2 hk2), by first | exact q3 | exact below_drew1 q3⟩
set_option maxHeartbeats 8000000 in
set_option maxRecDepth 100000 in
theorem state_handle (T : Int) (body : List Int) (kids : List S44) (i : Int) (Ab : Option Addr) (cb : Nat) (b : List Int) (r : ByteArray) (Al : Option Addr) (cl : Nat) (l : List ByteArray) (sr : ByteArray) (As : Option Addr) (cs : Nat) (sl : List ByteArray) (e : Int) (w : World)
  (hN : ∀ W, Below w.heap.size w W → Calls Tryz.prog 17 #[.iface 55 (.int .i64 i)] W fun e' w' => ∃ v1 v2 : Value, e' = .returned (.tuple #[.agg #[.int .u8 T, v1, v2], .bool true]) ∧ Kd.V (Kd.int .u8) 5 w' W.heap.size (fun k => W.heap.size ≤ k) v1 body ∧ Kd.V k44 44 w' W.heap.size (fun k => W.heap.size ≤ k) v2 kids ∧ Below W.heap.size W w') :
  Calls Tryz.prog 9 #[anyV 4, .agg #[.int .i64 i, .slice Ab b.length cb, .string r, .slice Al l.length cl, .string sr, .slice As sl.length cs, .int .i64 e]] w fun e' w' => ∃ v1 v2 : Value, e' = .returned (.tuple #[.agg #[.int .u8 T, v1, v2], .bool (blankB i b r l sr sl e 105)]) ∧ Kd.V (Kd.int .u8) 5 w' w.heap.size (fun k => w.heap.size ≤ k) v1 body ∧ Kd.V k44 44 w' w.heap.size (fun k => w.heap.size ≤ k) v2 kids ∧ Below w.heap.size w w' := by
 have PN := Aside0.mk hN
 have PB := Aside0.mk (fun W => blank_105 i Ab cb b r Al cl l sr As cs sl e W)
 have t0 := any_ta4_0
 have t1 := any_ta4_1
 have t2 := any_ta4_2
 have t4 := any_ta4_4
 generalize blankB i b r l sr sl e 105 = P at PB ⊢
 generalize b.length = nb at PN PB ⊢
 generalize l.length = nl at PN PB ⊢
 generalize sl.length = ns at PN PB ⊢
 obtain ⟨X, hX⟩ : ∃ X, X = anyV 4 := ⟨_, rfl⟩
 rw [← hX] at t0 t1 t2 t4 ⊢
 clear hX hN
 go_enter Tryz.func9, Tryz.ntmps9
 go_wp2_with (go_at_call 17; refine (PN.out _ (start3_below w #[.int .i64 i, .slice Ab nb cb, .string r, .slice Al nl cl, .string sr, .slice As ns cs, .int .i64 e])).mono ?_; rintro e' w1 ⟨v1, v2, rfl, hV1, hV2, hb⟩; obtain ⟨A1, c1, rfl⟩ := Kd.V_slice hV1; obtain ⟨A2, c2, rfl⟩ := Kd.V_slice hV2; generalize hm1 : body.length = m1 at hV1 ⊢; generalize hm2 : kids.length = m2 at hV2 ⊢; have P1 := Aside0.mk (And.intro hV1 (And.intro hV2 hb)); clear hV1 hV2 hb hm1 hm2)
 obtain ⟨o, ho⟩ : ∃ o, Obj.cells #[.int .u8 T, .slice A1 m1 c1, .slice A2 m2 c2] 44 = o := ⟨_, rfl⟩
 have kb := blk_alloc (blk_below (start3_0 w #[.int .i64 i, .slice Ab nb cb, .string r, .slice Al nl cl, .string sr, .slice As ns cs, .int .i64 e]) P1.out.2.2) o
 have kr := blk_alloc (blk_below (start3_1 w #[.int .i64 i, .slice Ab nb cb, .string r, .slice Al nl cl, .string sr, .slice As ns cs, .int .i64 e]) P1.out.2.2) o
 have kn := blk_new w1 o
 have hlt : w.heap.size + 2 < w1.heap.size := blk_lt (blk_below (start3_2 w #[.int .i64 i, .slice Ab nb cb, .string r, .slice Al nl cl, .string sr, .slice As ns cs, .int .i64 e]) P1.out.2.2)
 have hV1 := Kd.V_alloc P1.out.1 o
 have hV2 := Kd.V_alloc P1.out.2.1 o
 have hB := below_alloc (below_step (start3_below w #[.int .i64 i, .slice Ab nb cb, .string r, .slice Al nl cl, .string sr, .slice As ns cs, .int .i64 e]) P1.out.2.2) o
 rw [ho]
 generalize w1.alloc o = W at kb kr kn hV1 hV2 hB ⊢
 rw [← ho] at kn
 clear ho
 have b0 : W.cell? ⟨w.heap.size, 0, none⟩ = some (.int .i64 i) := (blk_cell kb 0).trans rfl
 have b1 : W.cell? ⟨w.heap.size, 1, none⟩ = some (.slice Ab nb cb) := (blk_cell kb 1).trans rfl
 have b2 : W.cell? ⟨w.heap.size, 2, none⟩ = some (.string r) := (blk_cell kb 2).trans rfl
 have b3 : W.cell? ⟨w.heap.size, 3, none⟩ = some (.slice Al nl cl) := (blk_cell kb 3).trans rfl
 have b4 : W.cell? ⟨w.heap.size, 4, none⟩ = some (.string sr) := (blk_cell kb 4).trans rfl
 have b5 : W.cell? ⟨w.heap.size, 5, none⟩ = some (.slice As ns cs) := (blk_cell kb 5).trans rfl
 have b6 : W.cell? ⟨w.heap.size, 6, none⟩ = some (.int .i64 e) := (blk_cell kb 6).trans rfl
 have x0 : W.cell? ⟨w1.heap.size, 0, none⟩ = some (.int .u8 T) := (blk_cell kn 0).trans rfl
 have x1 : W.cell? ⟨w1.heap.size, 1, none⟩ = some (.slice A1 m1 c1) := (blk_cell kn 1).trans rfl
 have x2 : W.cell? ⟨w1.heap.size, 2, none⟩ = some (.slice A2 m2 c2) := (blk_cell kn 2).trans rfl
 have r0 := (blk_cell kr 0).trans rfl
 have y0 := blk_frozen kr 0
 have r1 := (blk_cell kr 1).trans rfl
 have y1 := blk_frozen kr 1
 have r2 := (blk_cell kr 2).trans rfl
 have y2 := blk_frozen kr 2
 have PK := Aside0.mk (And.intro (fun (w' : World) (hb : Below W.heap.size W w') => blk_below kr hb) (And.intro (fun (w' : World) (hb : Below W.heap.size W w') => blk_below kb hb) (And.intro (fun (w' : World) (hb : Below W.heap.size W w') => blk_below kn hb) (And.intro hV1 (And.intro hV2 hB)))))
 have PW0 := Aside0.mk (And.intro (Below.refl W.heap.size W) kr)
 have hne : w.heap.size + 1 ≠ w1.heap.size := by omega
 have hne2 := hne.symm
 have hne3 : w.heap.size ≠ w1.heap.size := by omega
 have hne4 := hne3.symm
 clear kb kr kn hV1 hV2 hB P1 hlt
 go_region_held3 (fun w' => w'.cell? ⟨w.heap.size, 0, none⟩ = some (.int .i64 i) ∧ w'.cell? ⟨w.heap.size, 1, none⟩ = some (.slice Ab nb cb) ∧ w'.cell? ⟨w.heap.size, 2, none⟩ = some (.string r) ∧ w'.cell? ⟨w.heap.size, 3, none⟩ = some (.slice Al nl cl) ∧ w'.cell? ⟨w.heap.size, 4, none⟩ = some (.string sr) ∧ w'.cell? ⟨w.heap.size, 5, none⟩ = some (.slice As ns cs) ∧ w'.cell? ⟨w.heap.size, 6, none⟩ = some (.int .i64 e) ∧ w'.cell? ⟨w1.heap.size, 0, none⟩ = some (.int .u8 T) ∧ w'.cell? ⟨w1.heap.size, 1, none⟩ = some (.slice A1 m1 c1) ∧ w'.cell? ⟨w1.heap.size, 2, none⟩ = some (.slice A2 m2 c2)) (go_keep) (first | (go_at_call 18; refine (PB.out _).mono ?_; rintro e' w' ⟨rfl, hb⟩; have hbW : Below W.heap.size W w' := (by first | exact hb | exact below_step (below_drew1 (Below.refl _ _)) hb); have kb2 := PK.out.2.1 w' hbW; have kr2 := PK.out.1 w' hbW; have kn2 := PK.out.2.2.1 w' hbW; have b20 := (blk_cell kb2 0).trans rfl; have b21 := (blk_cell kb2 1).trans rfl; have b22 := (blk_cell kb2 2).trans rfl; have b23 := (blk_cell kb2 3).trans rfl; have b24 := (blk_cell kb2 4).trans rfl; have b25 := (blk_cell kb2 5).trans rfl; have b26 := (blk_cell kb2 6).trans rfl; have x20 := (blk_cell kn2 0).trans rfl; have r20 := (blk_cell kr2 0).trans rfl; have y20 := blk_frozen kr2 0; have x21 := (blk_cell kn2 1).trans rfl; have r21 := (blk_cell kr2 1).trans rfl; have y21 := blk_frozen kr2 1; have x22 := (blk_cell kn2 2).trans rfl; have r22 := (blk_cell kr2 2).trans rfl; have y22 := blk_frozen kr2 2; have PW := Aside0.mk (And.intro hbW kr2); clear hb hbW kb2 kr2 kn2))
 go_wp2
 have kf := put3 PW.out.2 (.int .u8 T) (.slice A1 m1 c1) (.slice A2 m2 c2)
 refine bodyPost_ret (results_ct rfl _ _ (w.heap.size + 1) 44 #[.int .u8 T, .slice A1 m1 c1, .slice A2 m2 c2] (0, 0) _ rfl (by first | exact kf | exact blk_drew kf) Tryz.underlying44 rfl (by kernel_rfl)) rfl ?_
 have hk1 : ∀ k, (start3 w #[.int .i64 i, .slice Ab nb cb, .string r, .slice Al nl cl, .string sr, .slice As ns cs, .int .i64 e]).heap.size ≤ k → k ≠ w.heap.size + 1 := fun k hk => by rw [start3_size] at hk; omega
 have hk2 : ∀ k, (start3 w #[.int .i64 i, .slice Ab nb cb, .string r, .slice Al nl cl, .string sr, .slice As ns cs, .int .i64 e]).heap.size ≤ k → w.heap.size ≤ k := fun k hk => by rw [start3_size] at hk; omega
 have q1 := far3 (Kd.V_below PK.out.2.2.2.1 PW.out.1) hk1 (.int .u8 T) (.slice A1 m1 c1) (.slice A2 m2 c2)
 have q2 := far3 (Kd.V_below PK.out.2.2.2.2.1 PW.out.1) hk1 (.int .u8 T) (.slice A1 m1 c1) (.slice A2 m2 c2)
 have q3 := set3 (below_step PK.out.2.2.2.2.2 PW.out.1) (Nat.le_succ w.heap.size) (.int .u8 T) (.slice A1 m1 c1) (.slice A2 m2 c2)
 exact ⟨_, _, rfl, by first | exact Kd.V_mono q1 hk2 | exact Kd.V_drew (Kd.V_mono q1 hk2), by first | exact Kd.V_mono q2 hk2 | exact Kd.V_drew (Kd.V_mono q2 hk2), by first | exact q3 | exact below_drew1 q3⟩
set_option maxHeartbeats 8000000 in
set_option maxRecDepth 100000 in
theorem state_handle_no (T : Int) (body : List Int) (kids : List S44) (i : Int) (Ab : Option Addr) (cb : Nat) (b : List Int) (r : ByteArray) (Al : Option Addr) (cl : Nat) (l : List ByteArray) (sr : ByteArray) (As : Option Addr) (cs : Nat) (sl : List ByteArray) (e : Int) (w : World)
  (hN : ∀ W, Below w.heap.size w W → Calls Tryz.prog 17 #[.iface 55 (.int .i64 i)] W fun e' w' => ∃ v1 v2 : Value, e' = .returned (.tuple #[.agg #[.int .u8 T, v1, v2], .bool false]) ∧ Kd.V (Kd.int .u8) 5 w' W.heap.size (fun k => W.heap.size ≤ k) v1 body ∧ Kd.V k44 44 w' W.heap.size (fun k => W.heap.size ≤ k) v2 kids ∧ Below W.heap.size W w') :
  Calls Tryz.prog 9 #[anyV 4, .agg #[.int .i64 i, .slice Ab b.length cb, .string r, .slice Al l.length cl, .string sr, .slice As sl.length cs, .int .i64 e]] w fun e' w' => ∃ v1 v2 : Value, e' = .returned (.tuple #[.agg #[.int .u8 T, v1, v2], .bool false]) ∧ Kd.V (Kd.int .u8) 5 w' w.heap.size (fun k => w.heap.size ≤ k) v1 body ∧ Kd.V k44 44 w' w.heap.size (fun k => w.heap.size ≤ k) v2 kids ∧ Below w.heap.size w w' := by
 have PN := Aside0.mk hN
 have t0 := any_ta4_0
 have t1 := any_ta4_1
 have t2 := any_ta4_2
 have t4 := any_ta4_4
 generalize b.length = nb at PN ⊢
 generalize l.length = nl at PN ⊢
 generalize sl.length = ns at PN ⊢
 obtain ⟨X, hX⟩ : ∃ X, X = anyV 4 := ⟨_, rfl⟩
 rw [← hX] at t0 t1 t2 t4 ⊢
 clear hX hN
 go_enter Tryz.func9, Tryz.ntmps9
 go_wp2_with (go_at_call 17; refine (PN.out _ (start3_below w #[.int .i64 i, .slice Ab nb cb, .string r, .slice Al nl cl, .string sr, .slice As ns cs, .int .i64 e])).mono ?_; rintro e' w1 ⟨v1, v2, rfl, hV1, hV2, hb⟩; obtain ⟨A1, c1, rfl⟩ := Kd.V_slice hV1; obtain ⟨A2, c2, rfl⟩ := Kd.V_slice hV2; generalize hm1 : body.length = m1 at hV1 ⊢; generalize hm2 : kids.length = m2 at hV2 ⊢; have P1 := Aside0.mk (And.intro hV1 (And.intro hV2 hb)); clear hV1 hV2 hb hm1 hm2)
 obtain ⟨o, ho⟩ : ∃ o, Obj.cells #[.int .u8 T, .slice A1 m1 c1, .slice A2 m2 c2] 44 = o := ⟨_, rfl⟩
 have kb := blk_alloc (blk_below (start3_0 w #[.int .i64 i, .slice Ab nb cb, .string r, .slice Al nl cl, .string sr, .slice As ns cs, .int .i64 e]) P1.out.2.2) o
 have kr := blk_alloc (blk_below (start3_1 w #[.int .i64 i, .slice Ab nb cb, .string r, .slice Al nl cl, .string sr, .slice As ns cs, .int .i64 e]) P1.out.2.2) o
 have kn := blk_new w1 o
 have hlt : w.heap.size + 2 < w1.heap.size := blk_lt (blk_below (start3_2 w #[.int .i64 i, .slice Ab nb cb, .string r, .slice Al nl cl, .string sr, .slice As ns cs, .int .i64 e]) P1.out.2.2)
 have hV1 := Kd.V_alloc P1.out.1 o
 have hV2 := Kd.V_alloc P1.out.2.1 o
 have hB := below_alloc (below_step (start3_below w #[.int .i64 i, .slice Ab nb cb, .string r, .slice Al nl cl, .string sr, .slice As ns cs, .int .i64 e]) P1.out.2.2) o
 rw [ho]
 generalize w1.alloc o = W at kb kr kn hV1 hV2 hB ⊢
 rw [← ho] at kn
 clear ho
 have b0 : W.cell? ⟨w.heap.size, 0, none⟩ = some (.int .i64 i) := (blk_cell kb 0).trans rfl
 have b1 : W.cell? ⟨w.heap.size, 1, none⟩ = some (.slice Ab nb cb) := (blk_cell kb 1).trans rfl
 have b2 : W.cell? ⟨w.heap.size, 2, none⟩ = some (.string r) := (blk_cell kb 2).trans rfl
 have b3 : W.cell? ⟨w.heap.size, 3, none⟩ = some (.slice Al nl cl) := (blk_cell kb 3).trans rfl
 have b4 : W.cell? ⟨w.heap.size, 4, none⟩ = some (.string sr) := (blk_cell kb 4).trans rfl
 have b5 : W.cell? ⟨w.heap.size, 5, none⟩ = some (.slice As ns cs) := (blk_cell kb 5).trans rfl
 have b6 : W.cell? ⟨w.heap.size, 6, none⟩ = some (.int .i64 e) := (blk_cell kb 6).trans rfl
 have x0 : W.cell? ⟨w1.heap.size, 0, none⟩ = some (.int .u8 T) := (blk_cell kn 0).trans rfl
 have x1 : W.cell? ⟨w1.heap.size, 1, none⟩ = some (.slice A1 m1 c1) := (blk_cell kn 1).trans rfl
 have x2 : W.cell? ⟨w1.heap.size, 2, none⟩ = some (.slice A2 m2 c2) := (blk_cell kn 2).trans rfl
 have r0 := (blk_cell kr 0).trans rfl
 have y0 := blk_frozen kr 0
 have r1 := (blk_cell kr 1).trans rfl
 have y1 := blk_frozen kr 1
 have r2 := (blk_cell kr 2).trans rfl
 have y2 := blk_frozen kr 2
 have PK := Aside0.mk (And.intro (fun (w' : World) (hb : Below W.heap.size W w') => blk_below kr hb) (And.intro (fun (w' : World) (hb : Below W.heap.size W w') => blk_below kb hb) (And.intro (fun (w' : World) (hb : Below W.heap.size W w') => blk_below kn hb) (And.intro hV1 (And.intro hV2 hB)))))
 have PW0 := Aside0.mk (And.intro (Below.refl W.heap.size W) kr)
 have hne : w.heap.size + 1 ≠ w1.heap.size := by omega
 have hne2 := hne.symm
 have hne3 : w.heap.size ≠ w1.heap.size := by omega
 have hne4 := hne3.symm
 clear kb kr kn hV1 hV2 hB P1 hlt
 go_region
 go_wp2
 have kf := put3 PW0.out.2 (.int .u8 T) (.slice A1 m1 c1) (.slice A2 m2 c2)
 refine bodyPost_ret (results_ct rfl _ _ (w.heap.size + 1) 44 #[.int .u8 T, .slice A1 m1 c1, .slice A2 m2 c2] (0, 0) _ rfl (by first | exact kf | exact blk_drew kf) Tryz.underlying44 rfl (by kernel_rfl)) rfl ?_
 have hk1 : ∀ k, (start3 w #[.int .i64 i, .slice Ab nb cb, .string r, .slice Al nl cl, .string sr, .slice As ns cs, .int .i64 e]).heap.size ≤ k → k ≠ w.heap.size + 1 := fun k hk => by rw [start3_size] at hk; omega
 have hk2 : ∀ k, (start3 w #[.int .i64 i, .slice Ab nb cb, .string r, .slice Al nl cl, .string sr, .slice As ns cs, .int .i64 e]).heap.size ≤ k → w.heap.size ≤ k := fun k hk => by rw [start3_size] at hk; omega
 have q1 := far3 (Kd.V_below PK.out.2.2.2.1 PW0.out.1) hk1 (.int .u8 T) (.slice A1 m1 c1) (.slice A2 m2 c2)
 have q2 := far3 (Kd.V_below PK.out.2.2.2.2.1 PW0.out.1) hk1 (.int .u8 T) (.slice A1 m1 c1) (.slice A2 m2 c2)
 have q3 := set3 (below_step PK.out.2.2.2.2.2 PW0.out.1) (Nat.le_succ w.heap.size) (.int .u8 T) (.slice A1 m1 c1) (.slice A2 m2 c2)
 exact ⟨_, _, rfl, by first | exact Kd.V_mono q1 hk2 | exact Kd.V_drew (Kd.V_mono q1 hk2), by first | exact Kd.V_mono q2 hk2 | exact Kd.V_drew (Kd.V_mono q2 hk2), by first | exact q3 | exact below_drew1 q3⟩
set_option maxHeartbeats 8000000 in
set_option maxRecDepth 100000 in
theorem state_princ (T : Int) (body : List Int) (kids : List S44) (i : Int) (Ab : Option Addr) (cb : Nat) (b : List Int) (r : ByteArray) (Al : Option Addr) (cl : Nat) (l : List ByteArray) (sr : ByteArray) (As : Option Addr) (cs : Nat) (sl : List ByteArray) (e : Int) (w : World)
  (hN : ∀ W, Below w.heap.size w W → Calls Tryz.prog 19 #[.agg #[.string r, .slice Al l.length cl]] W fun e' w' => ∃ v1 v2 : Value, e' = .returned (.tuple #[.agg #[.int .u8 T, v1, v2], .int .i64 0]) ∧ Kd.V (Kd.int .u8) 5 w' W.heap.size (fun k => W.heap.size ≤ k) v1 body ∧ Kd.V k44 44 w' W.heap.size (fun k => W.heap.size ≤ k) v2 kids ∧ Below W.heap.size W w') :
  Calls Tryz.prog 9 #[anyV 5, .agg #[.int .i64 i, .slice Ab b.length cb, .string r, .slice Al l.length cl, .string sr, .slice As sl.length cs, .int .i64 e]] w fun e' w' => ∃ v1 v2 : Value, e' = .returned (.tuple #[.agg #[.int .u8 T, v1, v2], .bool (blankB i b r l sr sl e 112)]) ∧ Kd.V (Kd.int .u8) 5 w' w.heap.size (fun k => w.heap.size ≤ k) v1 body ∧ Kd.V k44 44 w' w.heap.size (fun k => w.heap.size ≤ k) v2 kids ∧ Below w.heap.size w w' := by
 have PN := Aside0.mk hN
 have PB := Aside0.mk (fun W => blank_112 i Ab cb b r Al cl l sr As cs sl e W)
 have t0 := any_ta5_0
 have t1 := any_ta5_1
 have t2 := any_ta5_2
 have t4 := any_ta5_4
 have t3 := any_ta5_3
 have t5 := any_ta5_5
 generalize blankB i b r l sr sl e 112 = P at PB ⊢
 generalize b.length = nb at PN PB ⊢
 generalize l.length = nl at PN PB ⊢
 generalize sl.length = ns at PN PB ⊢
 obtain ⟨X, hX⟩ : ∃ X, X = anyV 5 := ⟨_, rfl⟩
 rw [← hX] at t0 t1 t2 t4 t3 t5 ⊢
 clear hX hN
 go_enter Tryz.func9, Tryz.ntmps9
 go_wp2_with (go_at_call 19; refine (PN.out _ (start3_below w #[.int .i64 i, .slice Ab nb cb, .string r, .slice Al nl cl, .string sr, .slice As ns cs, .int .i64 e])).mono ?_; rintro e' w1 ⟨v1, v2, rfl, hV1, hV2, hb⟩; obtain ⟨A1, c1, rfl⟩ := Kd.V_slice hV1; obtain ⟨A2, c2, rfl⟩ := Kd.V_slice hV2; generalize hm1 : body.length = m1 at hV1 ⊢; generalize hm2 : kids.length = m2 at hV2 ⊢; have P1 := Aside0.mk (And.intro hV1 (And.intro hV2 hb)); have k2 := blk_below (start3_2 w #[.int .i64 i, .slice Ab nb cb, .string r, .slice Al nl cl, .string sr, .slice As ns cs, .int .i64 e]) hb; have z0 := (blk_cell k2 0).trans rfl; have z1 := (blk_cell k2 1).trans rfl; have z2 := (blk_cell k2 2).trans rfl; have u0 := blk_frozen k2 0; have u1 := blk_frozen k2 1; have u2 := blk_frozen k2 2; clear k2; clear hV1 hV2 hb hm1 hm2)
 have hlt : w.heap.size + 2 < w1.heap.size := blk_lt (blk_below (start3_2 w #[.int .i64 i, .slice Ab nb cb, .string r, .slice Al nl cl, .string sr, .slice As ns cs, .int .i64 e]) P1.out.2.2)
 have kb := off3 (blk_below (start3_0 w #[.int .i64 i, .slice Ab nb cb, .string r, .slice Al nl cl, .string sr, .slice As ns cs, .int .i64 e]) P1.out.2.2) (show w.heap.size ≠ w.heap.size + 2 by omega) (.int .u8 T) (.slice A1 m1 c1) (.slice A2 m2 c2)
 have kr := off3 (blk_below (start3_1 w #[.int .i64 i, .slice Ab nb cb, .string r, .slice Al nl cl, .string sr, .slice As ns cs, .int .i64 e]) P1.out.2.2) (show w.heap.size + 1 ≠ w.heap.size + 2 by omega) (.int .u8 T) (.slice A1 m1 c1) (.slice A2 m2 c2)
 have kn := put3 (blk_below (start3_2 w #[.int .i64 i, .slice Ab nb cb, .string r, .slice Al nl cl, .string sr, .slice As ns cs, .int .i64 e]) P1.out.2.2) (.int .u8 T) (.slice A1 m1 c1) (.slice A2 m2 c2)
 have hV1 := far3 P1.out.1 (g := w.heap.size + 2) (fun k hk => by rw [start3_size] at hk; omega) (.int .u8 T) (.slice A1 m1 c1) (.slice A2 m2 c2)
 have hV2 := far3 P1.out.2.1 (g := w.heap.size + 2) (fun k hk => by rw [start3_size] at hk; omega) (.int .u8 T) (.slice A1 m1 c1) (.slice A2 m2 c2)
 have hB := set3 (g := w.heap.size + 2) (below_step (start3_below w #[.int .i64 i, .slice Ab nb cb, .string r, .slice Al nl cl, .string sr, .slice As ns cs, .int .i64 e]) P1.out.2.2) (by omega) (.int .u8 T) (.slice A1 m1 c1) (.slice A2 m2 c2)
 clear z0 z1 z2 u0 u1 u2
 generalize ((w1.setCell ⟨w.heap.size + 2, 0, none⟩ (.int .u8 T)).setCell ⟨w.heap.size + 2, 1, none⟩ (.slice A1 m1 c1)).setCell ⟨w.heap.size + 2, 2, none⟩ (.slice A2 m2 c2) = W at kb kr kn hV1 hV2 hB ⊢
 have b0 : W.cell? ⟨w.heap.size, 0, none⟩ = some (.int .i64 i) := (blk_cell kb 0).trans rfl
 have b1 : W.cell? ⟨w.heap.size, 1, none⟩ = some (.slice Ab nb cb) := (blk_cell kb 1).trans rfl
 have b2 : W.cell? ⟨w.heap.size, 2, none⟩ = some (.string r) := (blk_cell kb 2).trans rfl
 have b3 : W.cell? ⟨w.heap.size, 3, none⟩ = some (.slice Al nl cl) := (blk_cell kb 3).trans rfl
 have b4 : W.cell? ⟨w.heap.size, 4, none⟩ = some (.string sr) := (blk_cell kb 4).trans rfl
 have b5 : W.cell? ⟨w.heap.size, 5, none⟩ = some (.slice As ns cs) := (blk_cell kb 5).trans rfl
 have b6 : W.cell? ⟨w.heap.size, 6, none⟩ = some (.int .i64 e) := (blk_cell kb 6).trans rfl
 have x0 : W.cell? ⟨w.heap.size + 2, 0, none⟩ = some (.int .u8 T) := (blk_cell kn 0).trans rfl
 have x1 : W.cell? ⟨w.heap.size + 2, 1, none⟩ = some (.slice A1 m1 c1) := (blk_cell kn 1).trans rfl
 have x2 : W.cell? ⟨w.heap.size + 2, 2, none⟩ = some (.slice A2 m2 c2) := (blk_cell kn 2).trans rfl
 have r0 := (blk_cell kr 0).trans rfl
 have y0 := blk_frozen kr 0
 have r1 := (blk_cell kr 1).trans rfl
 have y1 := blk_frozen kr 1
 have r2 := (blk_cell kr 2).trans rfl
 have y2 := blk_frozen kr 2
 have PK := Aside0.mk (And.intro (fun (w' : World) (hb : Below W.heap.size W w') => blk_below kr hb) (And.intro (fun (w' : World) (hb : Below W.heap.size W w') => blk_below kb hb) (And.intro (fun (w' : World) (hb : Below W.heap.size W w') => blk_below kn hb) (And.intro hV1 (And.intro hV2 hB)))))
 have PW0 := Aside0.mk (And.intro (Below.refl W.heap.size W) kr)
 clear kb kr kn hV1 hV2 hB P1 hlt
 go_region_held3 (fun w' => w'.cell? ⟨w.heap.size, 0, none⟩ = some (.int .i64 i) ∧ w'.cell? ⟨w.heap.size, 1, none⟩ = some (.slice Ab nb cb) ∧ w'.cell? ⟨w.heap.size, 2, none⟩ = some (.string r) ∧ w'.cell? ⟨w.heap.size, 3, none⟩ = some (.slice Al nl cl) ∧ w'.cell? ⟨w.heap.size, 4, none⟩ = some (.string sr) ∧ w'.cell? ⟨w.heap.size, 5, none⟩ = some (.slice As ns cs) ∧ w'.cell? ⟨w.heap.size, 6, none⟩ = some (.int .i64 e) ∧ w'.cell? ⟨w.heap.size + 2, 0, none⟩ = some (.int .u8 T) ∧ w'.cell? ⟨w.heap.size + 2, 1, none⟩ = some (.slice A1 m1 c1) ∧ w'.cell? ⟨w.heap.size + 2, 2, none⟩ = some (.slice A2 m2 c2)) (go_keep) (first | (go_at_call 18; refine (PB.out _).mono ?_; rintro e' w' ⟨rfl, hb⟩; have hbW : Below W.heap.size W w' := (by first | exact hb | exact below_step (below_drew1 (Below.refl _ _)) hb); have kb2 := PK.out.2.1 w' hbW; have kr2 := PK.out.1 w' hbW; have kn2 := PK.out.2.2.1 w' hbW; have b20 := (blk_cell kb2 0).trans rfl; have b21 := (blk_cell kb2 1).trans rfl; have b22 := (blk_cell kb2 2).trans rfl; have b23 := (blk_cell kb2 3).trans rfl; have b24 := (blk_cell kb2 4).trans rfl; have b25 := (blk_cell kb2 5).trans rfl; have b26 := (blk_cell kb2 6).trans rfl; have x20 := (blk_cell kn2 0).trans rfl; have r20 := (blk_cell kr2 0).trans rfl; have y20 := blk_frozen kr2 0; have x21 := (blk_cell kn2 1).trans rfl; have r21 := (blk_cell kr2 1).trans rfl; have y21 := blk_frozen kr2 1; have x22 := (blk_cell kn2 2).trans rfl; have r22 := (blk_cell kr2 2).trans rfl; have y22 := blk_frozen kr2 2; have PW := Aside0.mk (And.intro hbW kr2); clear hb hbW kb2 kr2 kn2))
 go_wp2
 have kf := put3 PW.out.2 (.int .u8 T) (.slice A1 m1 c1) (.slice A2 m2 c2)
 refine bodyPost_ret (results_ct rfl _ _ (w.heap.size + 1) 44 #[.int .u8 T, .slice A1 m1 c1, .slice A2 m2 c2] (0, 0) _ rfl (by first | exact kf | exact blk_drew kf) Tryz.underlying44 rfl (by kernel_rfl)) rfl ?_
 have hk1 : ∀ k, (start3 w #[.int .i64 i, .slice Ab nb cb, .string r, .slice Al nl cl, .string sr, .slice As ns cs, .int .i64 e]).heap.size ≤ k → k ≠ w.heap.size + 1 := fun k hk => by rw [start3_size] at hk; omega
 have hk2 : ∀ k, (start3 w #[.int .i64 i, .slice Ab nb cb, .string r, .slice Al nl cl, .string sr, .slice As ns cs, .int .i64 e]).heap.size ≤ k → w.heap.size ≤ k := fun k hk => by rw [start3_size] at hk; omega
 have q1 := far3 (Kd.V_below PK.out.2.2.2.1 PW.out.1) hk1 (.int .u8 T) (.slice A1 m1 c1) (.slice A2 m2 c2)
 have q2 := far3 (Kd.V_below PK.out.2.2.2.2.1 PW.out.1) hk1 (.int .u8 T) (.slice A1 m1 c1) (.slice A2 m2 c2)
 have q3 := set3 (below_step PK.out.2.2.2.2.2 PW.out.1) (Nat.le_succ w.heap.size) (.int .u8 T) (.slice A1 m1 c1) (.slice A2 m2 c2)
 exact ⟨_, _, rfl, by first | exact Kd.V_mono q1 hk2 | exact Kd.V_drew (Kd.V_mono q1 hk2), by first | exact Kd.V_mono q2 hk2 | exact Kd.V_drew (Kd.V_mono q2 hk2), by first | exact q3 | exact below_drew1 q3⟩
set_option maxHeartbeats 8000000 in
set_option maxRecDepth 100000 in
theorem state_princ_no (T : Int) (body : List Int) (kids : List S44) (E : Int) (hE : E ≠ 0) (i : Int) (Ab : Option Addr) (cb : Nat) (b : List Int) (r : ByteArray) (Al : Option Addr) (cl : Nat) (l : List ByteArray) (sr : ByteArray) (As : Option Addr) (cs : Nat) (sl : List ByteArray) (e : Int) (w : World)
  (hN : ∀ W, Below w.heap.size w W → Calls Tryz.prog 19 #[.agg #[.string r, .slice Al l.length cl]] W fun e' w' => ∃ v1 v2 : Value, e' = .returned (.tuple #[.agg #[.int .u8 T, v1, v2], .int .i64 E]) ∧ Kd.V (Kd.int .u8) 5 w' W.heap.size (fun k => W.heap.size ≤ k) v1 body ∧ Kd.V k44 44 w' W.heap.size (fun k => W.heap.size ≤ k) v2 kids ∧ Below W.heap.size W w') :
  Calls Tryz.prog 9 #[anyV 5, .agg #[.int .i64 i, .slice Ab b.length cb, .string r, .slice Al l.length cl, .string sr, .slice As sl.length cs, .int .i64 e]] w fun e' w' => ∃ v1 v2 : Value, e' = .returned (.tuple #[.agg #[.int .u8 T, v1, v2], .bool false]) ∧ Kd.V (Kd.int .u8) 5 w' w.heap.size (fun k => w.heap.size ≤ k) v1 body ∧ Kd.V k44 44 w' w.heap.size (fun k => w.heap.size ≤ k) v2 kids ∧ Below w.heap.size w w' := by
 have PN := Aside0.mk hN
 have t0 := any_ta5_0
 have t1 := any_ta5_1
 have t2 := any_ta5_2
 have t4 := any_ta5_4
 have t3 := any_ta5_3
 have t5 := any_ta5_5
 generalize b.length = nb at PN ⊢
 generalize l.length = nl at PN ⊢
 generalize sl.length = ns at PN ⊢
 obtain ⟨X, hX⟩ : ∃ X, X = anyV 5 := ⟨_, rfl⟩
 rw [← hX] at t0 t1 t2 t4 t3 t5 ⊢
 clear hX hN
 have hE0 : (E == 0) = false := beq_eq_false_iff_ne.mpr hE
 clear hE
 go_enter Tryz.func9, Tryz.ntmps9
 go_wp2_with (go_at_call 19; refine (PN.out _ (start3_below w #[.int .i64 i, .slice Ab nb cb, .string r, .slice Al nl cl, .string sr, .slice As ns cs, .int .i64 e])).mono ?_; rintro e' w1 ⟨v1, v2, rfl, hV1, hV2, hb⟩; obtain ⟨A1, c1, rfl⟩ := Kd.V_slice hV1; obtain ⟨A2, c2, rfl⟩ := Kd.V_slice hV2; generalize hm1 : body.length = m1 at hV1 ⊢; generalize hm2 : kids.length = m2 at hV2 ⊢; have P1 := Aside0.mk (And.intro hV1 (And.intro hV2 hb)); have k2 := blk_below (start3_2 w #[.int .i64 i, .slice Ab nb cb, .string r, .slice Al nl cl, .string sr, .slice As ns cs, .int .i64 e]) hb; have z0 := (blk_cell k2 0).trans rfl; have z1 := (blk_cell k2 1).trans rfl; have z2 := (blk_cell k2 2).trans rfl; have u0 := blk_frozen k2 0; have u1 := blk_frozen k2 1; have u2 := blk_frozen k2 2; clear k2; clear hV1 hV2 hb hm1 hm2)
 have hlt : w.heap.size + 2 < w1.heap.size := blk_lt (blk_below (start3_2 w #[.int .i64 i, .slice Ab nb cb, .string r, .slice Al nl cl, .string sr, .slice As ns cs, .int .i64 e]) P1.out.2.2)
 have kb := off3 (blk_below (start3_0 w #[.int .i64 i, .slice Ab nb cb, .string r, .slice Al nl cl, .string sr, .slice As ns cs, .int .i64 e]) P1.out.2.2) (show w.heap.size ≠ w.heap.size + 2 by omega) (.int .u8 T) (.slice A1 m1 c1) (.slice A2 m2 c2)
 have kr := off3 (blk_below (start3_1 w #[.int .i64 i, .slice Ab nb cb, .string r, .slice Al nl cl, .string sr, .slice As ns cs, .int .i64 e]) P1.out.2.2) (show w.heap.size + 1 ≠ w.heap.size + 2 by omega) (.int .u8 T) (.slice A1 m1 c1) (.slice A2 m2 c2)
 have kn := put3 (blk_below (start3_2 w #[.int .i64 i, .slice Ab nb cb, .string r, .slice Al nl cl, .string sr, .slice As ns cs, .int .i64 e]) P1.out.2.2) (.int .u8 T) (.slice A1 m1 c1) (.slice A2 m2 c2)
 have hV1 := far3 P1.out.1 (g := w.heap.size + 2) (fun k hk => by rw [start3_size] at hk; omega) (.int .u8 T) (.slice A1 m1 c1) (.slice A2 m2 c2)
 have hV2 := far3 P1.out.2.1 (g := w.heap.size + 2) (fun k hk => by rw [start3_size] at hk; omega) (.int .u8 T) (.slice A1 m1 c1) (.slice A2 m2 c2)
 have hB := set3 (g := w.heap.size + 2) (below_step (start3_below w #[.int .i64 i, .slice Ab nb cb, .string r, .slice Al nl cl, .string sr, .slice As ns cs, .int .i64 e]) P1.out.2.2) (by omega) (.int .u8 T) (.slice A1 m1 c1) (.slice A2 m2 c2)
 clear z0 z1 z2 u0 u1 u2
 generalize ((w1.setCell ⟨w.heap.size + 2, 0, none⟩ (.int .u8 T)).setCell ⟨w.heap.size + 2, 1, none⟩ (.slice A1 m1 c1)).setCell ⟨w.heap.size + 2, 2, none⟩ (.slice A2 m2 c2) = W at kb kr kn hV1 hV2 hB ⊢
 have b0 : W.cell? ⟨w.heap.size, 0, none⟩ = some (.int .i64 i) := (blk_cell kb 0).trans rfl
 have b1 : W.cell? ⟨w.heap.size, 1, none⟩ = some (.slice Ab nb cb) := (blk_cell kb 1).trans rfl
 have b2 : W.cell? ⟨w.heap.size, 2, none⟩ = some (.string r) := (blk_cell kb 2).trans rfl
 have b3 : W.cell? ⟨w.heap.size, 3, none⟩ = some (.slice Al nl cl) := (blk_cell kb 3).trans rfl
 have b4 : W.cell? ⟨w.heap.size, 4, none⟩ = some (.string sr) := (blk_cell kb 4).trans rfl
 have b5 : W.cell? ⟨w.heap.size, 5, none⟩ = some (.slice As ns cs) := (blk_cell kb 5).trans rfl
 have b6 : W.cell? ⟨w.heap.size, 6, none⟩ = some (.int .i64 e) := (blk_cell kb 6).trans rfl
 have x0 : W.cell? ⟨w.heap.size + 2, 0, none⟩ = some (.int .u8 T) := (blk_cell kn 0).trans rfl
 have x1 : W.cell? ⟨w.heap.size + 2, 1, none⟩ = some (.slice A1 m1 c1) := (blk_cell kn 1).trans rfl
 have x2 : W.cell? ⟨w.heap.size + 2, 2, none⟩ = some (.slice A2 m2 c2) := (blk_cell kn 2).trans rfl
 have r0 := (blk_cell kr 0).trans rfl
 have y0 := blk_frozen kr 0
 have r1 := (blk_cell kr 1).trans rfl
 have y1 := blk_frozen kr 1
 have r2 := (blk_cell kr 2).trans rfl
 have y2 := blk_frozen kr 2
 have PK := Aside0.mk (And.intro (fun (w' : World) (hb : Below W.heap.size W w') => blk_below kr hb) (And.intro (fun (w' : World) (hb : Below W.heap.size W w') => blk_below kb hb) (And.intro (fun (w' : World) (hb : Below W.heap.size W w') => blk_below kn hb) (And.intro hV1 (And.intro hV2 hB)))))
 have PW0 := Aside0.mk (And.intro (Below.refl W.heap.size W) kr)
 clear kb kr kn hV1 hV2 hB P1 hlt
 go_region
 go_wp2
 have kf := put3 PW0.out.2 (.int .u8 T) (.slice A1 m1 c1) (.slice A2 m2 c2)
 refine bodyPost_ret (results_ct rfl _ _ (w.heap.size + 1) 44 #[.int .u8 T, .slice A1 m1 c1, .slice A2 m2 c2] (0, 0) _ rfl (by first | exact kf | exact blk_drew kf) Tryz.underlying44 rfl (by kernel_rfl)) rfl ?_
 have hk1 : ∀ k, (start3 w #[.int .i64 i, .slice Ab nb cb, .string r, .slice Al nl cl, .string sr, .slice As ns cs, .int .i64 e]).heap.size ≤ k → k ≠ w.heap.size + 1 := fun k hk => by rw [start3_size] at hk; omega
 have hk2 : ∀ k, (start3 w #[.int .i64 i, .slice Ab nb cb, .string r, .slice Al nl cl, .string sr, .slice As ns cs, .int .i64 e]).heap.size ≤ k → w.heap.size ≤ k := fun k hk => by rw [start3_size] at hk; omega
 have q1 := far3 (Kd.V_below PK.out.2.2.2.1 PW0.out.1) hk1 (.int .u8 T) (.slice A1 m1 c1) (.slice A2 m2 c2)
 have q2 := far3 (Kd.V_below PK.out.2.2.2.2.1 PW0.out.1) hk1 (.int .u8 T) (.slice A1 m1 c1) (.slice A2 m2 c2)
 have q3 := set3 (below_step PK.out.2.2.2.2.2 PW0.out.1) (Nat.le_succ w.heap.size) (.int .u8 T) (.slice A1 m1 c1) (.slice A2 m2 c2)
 exact ⟨_, _, rfl, by first | exact Kd.V_mono q1 hk2 | exact Kd.V_drew (Kd.V_mono q1 hk2), by first | exact Kd.V_mono q2 hk2 | exact Kd.V_drew (Kd.V_mono q2 hk2), by first | exact q3 | exact below_drew1 q3⟩
set_option maxHeartbeats 8000000 in
set_option maxRecDepth 100000 in
theorem state_ticket (T : Int) (body : List Int) (kids : List S44) (i : Int) (Ab : Option Addr) (cb : Nat) (b : List Int) (r : ByteArray) (Al : Option Addr) (cl : Nat) (l : List ByteArray) (sr : ByteArray) (As : Option Addr) (cs : Nat) (sl : List ByteArray) (e : Int) (w : World)
  (hN : ∀ W, Below w.heap.size w W → Calls Tryz.prog 20 #[.agg #[.string sr, .slice As sl.length cs, .int .i64 e]] W fun e' w' => ∃ v1 v2 : Value, e' = .returned (.tuple #[.agg #[.int .u8 T, v1, v2], .int .i64 0]) ∧ Kd.V (Kd.int .u8) 5 w' W.heap.size (fun k => W.heap.size ≤ k) v1 body ∧ Kd.V k44 44 w' W.heap.size (fun k => W.heap.size ≤ k) v2 kids ∧ Below W.heap.size W w') :
  Calls Tryz.prog 9 #[anyV 6, .agg #[.int .i64 i, .slice Ab b.length cb, .string r, .slice Al l.length cl, .string sr, .slice As sl.length cs, .int .i64 e]] w fun e' w' => ∃ v1 v2 : Value, e' = .returned (.tuple #[.agg #[.int .u8 T, v1, v2], .bool (blankB i b r l sr sl e 107)]) ∧ Kd.V (Kd.int .u8) 5 w' w.heap.size (fun k => w.heap.size ≤ k) v1 body ∧ Kd.V k44 44 w' w.heap.size (fun k => w.heap.size ≤ k) v2 kids ∧ Below w.heap.size w w' := by
 have PN := Aside0.mk hN
 have PB := Aside0.mk (fun W => blank_107 i Ab cb b r Al cl l sr As cs sl e W)
 have t0 := any_ta6_0
 have t1 := any_ta6_1
 have t2 := any_ta6_2
 have t4 := any_ta6_4
 have t3 := any_ta6_3
 have t5 := any_ta6_5
 generalize blankB i b r l sr sl e 107 = P at PB ⊢
 generalize b.length = nb at PN PB ⊢
 generalize l.length = nl at PN PB ⊢
 generalize sl.length = ns at PN PB ⊢
 obtain ⟨X, hX⟩ : ∃ X, X = anyV 6 := ⟨_, rfl⟩
 rw [← hX] at t0 t1 t2 t4 t3 t5 ⊢
 clear hX hN
 go_enter Tryz.func9, Tryz.ntmps9
 go_wp2_with (go_at_call 20; refine (PN.out _ (start3_below w #[.int .i64 i, .slice Ab nb cb, .string r, .slice Al nl cl, .string sr, .slice As ns cs, .int .i64 e])).mono ?_; rintro e' w1 ⟨v1, v2, rfl, hV1, hV2, hb⟩; obtain ⟨A1, c1, rfl⟩ := Kd.V_slice hV1; obtain ⟨A2, c2, rfl⟩ := Kd.V_slice hV2; generalize hm1 : body.length = m1 at hV1 ⊢; generalize hm2 : kids.length = m2 at hV2 ⊢; have P1 := Aside0.mk (And.intro hV1 (And.intro hV2 hb)); have k2 := blk_below (start3_2 w #[.int .i64 i, .slice Ab nb cb, .string r, .slice Al nl cl, .string sr, .slice As ns cs, .int .i64 e]) hb; have z0 := (blk_cell k2 0).trans rfl; have z1 := (blk_cell k2 1).trans rfl; have z2 := (blk_cell k2 2).trans rfl; have u0 := blk_frozen k2 0; have u1 := blk_frozen k2 1; have u2 := blk_frozen k2 2; clear k2; clear hV1 hV2 hb hm1 hm2)
 have hlt : w.heap.size + 2 < w1.heap.size := blk_lt (blk_below (start3_2 w #[.int .i64 i, .slice Ab nb cb, .string r, .slice Al nl cl, .string sr, .slice As ns cs, .int .i64 e]) P1.out.2.2)
 have kb := off3 (blk_below (start3_0 w #[.int .i64 i, .slice Ab nb cb, .string r, .slice Al nl cl, .string sr, .slice As ns cs, .int .i64 e]) P1.out.2.2) (show w.heap.size ≠ w.heap.size + 2 by omega) (.int .u8 T) (.slice A1 m1 c1) (.slice A2 m2 c2)
 have kr := off3 (blk_below (start3_1 w #[.int .i64 i, .slice Ab nb cb, .string r, .slice Al nl cl, .string sr, .slice As ns cs, .int .i64 e]) P1.out.2.2) (show w.heap.size + 1 ≠ w.heap.size + 2 by omega) (.int .u8 T) (.slice A1 m1 c1) (.slice A2 m2 c2)
 have kn := put3 (blk_below (start3_2 w #[.int .i64 i, .slice Ab nb cb, .string r, .slice Al nl cl, .string sr, .slice As ns cs, .int .i64 e]) P1.out.2.2) (.int .u8 T) (.slice A1 m1 c1) (.slice A2 m2 c2)
 have hV1 := far3 P1.out.1 (g := w.heap.size + 2) (fun k hk => by rw [start3_size] at hk; omega) (.int .u8 T) (.slice A1 m1 c1) (.slice A2 m2 c2)
 have hV2 := far3 P1.out.2.1 (g := w.heap.size + 2) (fun k hk => by rw [start3_size] at hk; omega) (.int .u8 T) (.slice A1 m1 c1) (.slice A2 m2 c2)
 have hB := set3 (g := w.heap.size + 2) (below_step (start3_below w #[.int .i64 i, .slice Ab nb cb, .string r, .slice Al nl cl, .string sr, .slice As ns cs, .int .i64 e]) P1.out.2.2) (by omega) (.int .u8 T) (.slice A1 m1 c1) (.slice A2 m2 c2)
 clear z0 z1 z2 u0 u1 u2
 generalize ((w1.setCell ⟨w.heap.size + 2, 0, none⟩ (.int .u8 T)).setCell ⟨w.heap.size + 2, 1, none⟩ (.slice A1 m1 c1)).setCell ⟨w.heap.size + 2, 2, none⟩ (.slice A2 m2 c2) = W at kb kr kn hV1 hV2 hB ⊢
 have b0 : W.cell? ⟨w.heap.size, 0, none⟩ = some (.int .i64 i) := (blk_cell kb 0).trans rfl
 have b1 : W.cell? ⟨w.heap.size, 1, none⟩ = some (.slice Ab nb cb) := (blk_cell kb 1).trans rfl
 have b2 : W.cell? ⟨w.heap.size, 2, none⟩ = some (.string r) := (blk_cell kb 2).trans rfl
 have b3 : W.cell? ⟨w.heap.size, 3, none⟩ = some (.slice Al nl cl) := (blk_cell kb 3).trans rfl
 have b4 : W.cell? ⟨w.heap.size, 4, none⟩ = some (.string sr) := (blk_cell kb 4).trans rfl
 have b5 : W.cell? ⟨w.heap.size, 5, none⟩ = some (.slice As ns cs) := (blk_cell kb 5).trans rfl
 have b6 : W.cell? ⟨w.heap.size, 6, none⟩ = some (.int .i64 e) := (blk_cell kb 6).trans rfl
 have x0 : W.cell? ⟨w.heap.size + 2, 0, none⟩ = some (.int .u8 T) := (blk_cell kn 0).trans rfl
 have x1 : W.cell? ⟨w.heap.size + 2, 1, none⟩ = some (.slice A1 m1 c1) := (blk_cell kn 1).trans rfl
 have x2 : W.cell? ⟨w.heap.size + 2, 2, none⟩ = some (.slice A2 m2 c2) := (blk_cell kn 2).trans rfl
 have r0 := (blk_cell kr 0).trans rfl
 have y0 := blk_frozen kr 0
 have r1 := (blk_cell kr 1).trans rfl
 have y1 := blk_frozen kr 1
 have r2 := (blk_cell kr 2).trans rfl
 have y2 := blk_frozen kr 2
 have PK := Aside0.mk (And.intro (fun (w' : World) (hb : Below W.heap.size W w') => blk_below kr hb) (And.intro (fun (w' : World) (hb : Below W.heap.size W w') => blk_below kb hb) (And.intro (fun (w' : World) (hb : Below W.heap.size W w') => blk_below kn hb) (And.intro hV1 (And.intro hV2 hB)))))
 have PW0 := Aside0.mk (And.intro (Below.refl W.heap.size W) kr)
 clear kb kr kn hV1 hV2 hB P1 hlt
 go_region_held3 (fun w' => w'.cell? ⟨w.heap.size, 0, none⟩ = some (.int .i64 i) ∧ w'.cell? ⟨w.heap.size, 1, none⟩ = some (.slice Ab nb cb) ∧ w'.cell? ⟨w.heap.size, 2, none⟩ = some (.string r) ∧ w'.cell? ⟨w.heap.size, 3, none⟩ = some (.slice Al nl cl) ∧ w'.cell? ⟨w.heap.size, 4, none⟩ = some (.string sr) ∧ w'.cell? ⟨w.heap.size, 5, none⟩ = some (.slice As ns cs) ∧ w'.cell? ⟨w.heap.size, 6, none⟩ = some (.int .i64 e) ∧ w'.cell? ⟨w.heap.size + 2, 0, none⟩ = some (.int .u8 T) ∧ w'.cell? ⟨w.heap.size + 2, 1, none⟩ = some (.slice A1 m1 c1) ∧ w'.cell? ⟨w.heap.size + 2, 2, none⟩ = some (.slice A2 m2 c2)) (go_keep) (first | (go_at_call 18; refine (PB.out _).mono ?_; rintro e' w' ⟨rfl, hb⟩; have hbW : Below W.heap.size W w' := (by first | exact hb | exact below_step (below_drew1 (Below.refl _ _)) hb); have kb2 := PK.out.2.1 w' hbW; have kr2 := PK.out.1 w' hbW; have kn2 := PK.out.2.2.1 w' hbW; have b20 := (blk_cell kb2 0).trans rfl; have b21 := (blk_cell kb2 1).trans rfl; have b22 := (blk_cell kb2 2).trans rfl; have b23 := (blk_cell kb2 3).trans rfl; have b24 := (blk_cell kb2 4).trans rfl; have b25 := (blk_cell kb2 5).trans rfl; have b26 := (blk_cell kb2 6).trans rfl; have x20 := (blk_cell kn2 0).trans rfl; have r20 := (blk_cell kr2 0).trans rfl; have y20 := blk_frozen kr2 0; have x21 := (blk_cell kn2 1).trans rfl; have r21 := (blk_cell kr2 1).trans rfl; have y21 := blk_frozen kr2 1; have x22 := (blk_cell kn2 2).trans rfl; have r22 := (blk_cell kr2 2).trans rfl; have y22 := blk_frozen kr2 2; have PW := Aside0.mk (And.intro hbW kr2); clear hb hbW kb2 kr2 kn2))
 go_wp2
 have kf := put3 PW.out.2 (.int .u8 T) (.slice A1 m1 c1) (.slice A2 m2 c2)
 refine bodyPost_ret (results_ct rfl _ _ (w.heap.size + 1) 44 #[.int .u8 T, .slice A1 m1 c1, .slice A2 m2 c2] (0, 0) _ rfl (by first | exact kf | exact blk_drew kf) Tryz.underlying44 rfl (by kernel_rfl)) rfl ?_
 have hk1 : ∀ k, (start3 w #[.int .i64 i, .slice Ab nb cb, .string r, .slice Al nl cl, .string sr, .slice As ns cs, .int .i64 e]).heap.size ≤ k → k ≠ w.heap.size + 1 := fun k hk => by rw [start3_size] at hk; omega
 have hk2 : ∀ k, (start3 w #[.int .i64 i, .slice Ab nb cb, .string r, .slice Al nl cl, .string sr, .slice As ns cs, .int .i64 e]).heap.size ≤ k → w.heap.size ≤ k := fun k hk => by rw [start3_size] at hk; omega
 have q1 := far3 (Kd.V_below PK.out.2.2.2.1 PW.out.1) hk1 (.int .u8 T) (.slice A1 m1 c1) (.slice A2 m2 c2)
 have q2 := far3 (Kd.V_below PK.out.2.2.2.2.1 PW.out.1) hk1 (.int .u8 T) (.slice A1 m1 c1) (.slice A2 m2 c2)
 have q3 := set3 (below_step PK.out.2.2.2.2.2 PW.out.1) (Nat.le_succ w.heap.size) (.int .u8 T) (.slice A1 m1 c1) (.slice A2 m2 c2)
 exact ⟨_, _, rfl, by first | exact Kd.V_mono q1 hk2 | exact Kd.V_drew (Kd.V_mono q1 hk2), by first | exact Kd.V_mono q2 hk2 | exact Kd.V_drew (Kd.V_mono q2 hk2), by first | exact q3 | exact below_drew1 q3⟩
set_option maxHeartbeats 8000000 in
set_option maxRecDepth 100000 in
theorem state_ticket_no (T : Int) (body : List Int) (kids : List S44) (E : Int) (hE : E ≠ 0) (i : Int) (Ab : Option Addr) (cb : Nat) (b : List Int) (r : ByteArray) (Al : Option Addr) (cl : Nat) (l : List ByteArray) (sr : ByteArray) (As : Option Addr) (cs : Nat) (sl : List ByteArray) (e : Int) (w : World)
  (hN : ∀ W, Below w.heap.size w W → Calls Tryz.prog 20 #[.agg #[.string sr, .slice As sl.length cs, .int .i64 e]] W fun e' w' => ∃ v1 v2 : Value, e' = .returned (.tuple #[.agg #[.int .u8 T, v1, v2], .int .i64 E]) ∧ Kd.V (Kd.int .u8) 5 w' W.heap.size (fun k => W.heap.size ≤ k) v1 body ∧ Kd.V k44 44 w' W.heap.size (fun k => W.heap.size ≤ k) v2 kids ∧ Below W.heap.size W w') :
  Calls Tryz.prog 9 #[anyV 6, .agg #[.int .i64 i, .slice Ab b.length cb, .string r, .slice Al l.length cl, .string sr, .slice As sl.length cs, .int .i64 e]] w fun e' w' => ∃ v1 v2 : Value, e' = .returned (.tuple #[.agg #[.int .u8 T, v1, v2], .bool false]) ∧ Kd.V (Kd.int .u8) 5 w' w.heap.size (fun k => w.heap.size ≤ k) v1 body ∧ Kd.V k44 44 w' w.heap.size (fun k => w.heap.size ≤ k) v2 kids ∧ Below w.heap.size w w' := by
 have PN := Aside0.mk hN
 have t0 := any_ta6_0
 have t1 := any_ta6_1
 have t2 := any_ta6_2
 have t4 := any_ta6_4
 have t3 := any_ta6_3
 have t5 := any_ta6_5
 generalize b.length = nb at PN ⊢
 generalize l.length = nl at PN ⊢
 generalize sl.length = ns at PN ⊢
 obtain ⟨X, hX⟩ : ∃ X, X = anyV 6 := ⟨_, rfl⟩
 rw [← hX] at t0 t1 t2 t4 t3 t5 ⊢
 clear hX hN
 have hE0 : (E == 0) = false := beq_eq_false_iff_ne.mpr hE
 clear hE
 go_enter Tryz.func9, Tryz.ntmps9
 go_wp2_with (go_at_call 20; refine (PN.out _ (start3_below w #[.int .i64 i, .slice Ab nb cb, .string r, .slice Al nl cl, .string sr, .slice As ns cs, .int .i64 e])).mono ?_; rintro e' w1 ⟨v1, v2, rfl, hV1, hV2, hb⟩; obtain ⟨A1, c1, rfl⟩ := Kd.V_slice hV1; obtain ⟨A2, c2, rfl⟩ := Kd.V_slice hV2; generalize hm1 : body.length = m1 at hV1 ⊢; generalize hm2 : kids.length = m2 at hV2 ⊢; have P1 := Aside0.mk (And.intro hV1 (And.intro hV2 hb)); have k2 := blk_below (start3_2 w #[.int .i64 i, .slice Ab nb cb, .string r, .slice Al nl cl, .string sr, .slice As ns cs, .int .i64 e]) hb; have z0 := (blk_cell k2 0).trans rfl; have z1 := (blk_cell k2 1).trans rfl; have z2 := (blk_cell k2 2).trans rfl; have u0 := blk_frozen k2 0; have u1 := blk_frozen k2 1; have u2 := blk_frozen k2 2; clear k2; clear hV1 hV2 hb hm1 hm2)
 have hlt : w.heap.size + 2 < w1.heap.size := blk_lt (blk_below (start3_2 w #[.int .i64 i, .slice Ab nb cb, .string r, .slice Al nl cl, .string sr, .slice As ns cs, .int .i64 e]) P1.out.2.2)
 have kb := off3 (blk_below (start3_0 w #[.int .i64 i, .slice Ab nb cb, .string r, .slice Al nl cl, .string sr, .slice As ns cs, .int .i64 e]) P1.out.2.2) (show w.heap.size ≠ w.heap.size + 2 by omega) (.int .u8 T) (.slice A1 m1 c1) (.slice A2 m2 c2)
 have kr := off3 (blk_below (start3_1 w #[.int .i64 i, .slice Ab nb cb, .string r, .slice Al nl cl, .string sr, .slice As ns cs, .int .i64 e]) P1.out.2.2) (show w.heap.size + 1 ≠ w.heap.size + 2 by omega) (.int .u8 T) (.slice A1 m1 c1) (.slice A2 m2 c2)
 have kn := put3 (blk_below (start3_2 w #[.int .i64 i, .slice Ab nb cb, .string r, .slice Al nl cl, .string sr, .slice As ns cs, .int .i64 e]) P1.out.2.2) (.int .u8 T) (.slice A1 m1 c1) (.slice A2 m2 c2)
 have hV1 := far3 P1.out.1 (g := w.heap.size + 2) (fun k hk => by rw [start3_size] at hk; omega) (.int .u8 T) (.slice A1 m1 c1) (.slice A2 m2 c2)
 have hV2 := far3 P1.out.2.1 (g := w.heap.size + 2) (fun k hk => by rw [start3_size] at hk; omega) (.int .u8 T) (.slice A1 m1 c1) (.slice A2 m2 c2)
 have hB := set3 (g := w.heap.size + 2) (below_step (start3_below w #[.int .i64 i, .slice Ab nb cb, .string r, .slice Al nl cl, .string sr, .slice As ns cs, .int .i64 e]) P1.out.2.2) (by omega) (.int .u8 T) (.slice A1 m1 c1) (.slice A2 m2 c2)
 clear z0 z1 z2 u0 u1 u2
 generalize ((w1.setCell ⟨w.heap.size + 2, 0, none⟩ (.int .u8 T)).setCell ⟨w.heap.size + 2, 1, none⟩ (.slice A1 m1 c1)).setCell ⟨w.heap.size + 2, 2, none⟩ (.slice A2 m2 c2) = W at kb kr kn hV1 hV2 hB ⊢
 have b0 : W.cell? ⟨w.heap.size, 0, none⟩ = some (.int .i64 i) := (blk_cell kb 0).trans rfl
 have b1 : W.cell? ⟨w.heap.size, 1, none⟩ = some (.slice Ab nb cb) := (blk_cell kb 1).trans rfl
 have b2 : W.cell? ⟨w.heap.size, 2, none⟩ = some (.string r) := (blk_cell kb 2).trans rfl
 have b3 : W.cell? ⟨w.heap.size, 3, none⟩ = some (.slice Al nl cl) := (blk_cell kb 3).trans rfl
 have b4 : W.cell? ⟨w.heap.size, 4, none⟩ = some (.string sr) := (blk_cell kb 4).trans rfl
 have b5 : W.cell? ⟨w.heap.size, 5, none⟩ = some (.slice As ns cs) := (blk_cell kb 5).trans rfl
 have b6 : W.cell? ⟨w.heap.size, 6, none⟩ = some (.int .i64 e) := (blk_cell kb 6).trans rfl
 have x0 : W.cell? ⟨w.heap.size + 2, 0, none⟩ = some (.int .u8 T) := (blk_cell kn 0).trans rfl
 have x1 : W.cell? ⟨w.heap.size + 2, 1, none⟩ = some (.slice A1 m1 c1) := (blk_cell kn 1).trans rfl
 have x2 : W.cell? ⟨w.heap.size + 2, 2, none⟩ = some (.slice A2 m2 c2) := (blk_cell kn 2).trans rfl
 have r0 := (blk_cell kr 0).trans rfl
 have y0 := blk_frozen kr 0
 have r1 := (blk_cell kr 1).trans rfl
 have y1 := blk_frozen kr 1
 have r2 := (blk_cell kr 2).trans rfl
 have y2 := blk_frozen kr 2
 have PK := Aside0.mk (And.intro (fun (w' : World) (hb : Below W.heap.size W w') => blk_below kr hb) (And.intro (fun (w' : World) (hb : Below W.heap.size W w') => blk_below kb hb) (And.intro (fun (w' : World) (hb : Below W.heap.size W w') => blk_below kn hb) (And.intro hV1 (And.intro hV2 hB)))))
 have PW0 := Aside0.mk (And.intro (Below.refl W.heap.size W) kr)
 clear kb kr kn hV1 hV2 hB P1 hlt
 go_region
 go_wp2
 have kf := put3 PW0.out.2 (.int .u8 T) (.slice A1 m1 c1) (.slice A2 m2 c2)
 refine bodyPost_ret (results_ct rfl _ _ (w.heap.size + 1) 44 #[.int .u8 T, .slice A1 m1 c1, .slice A2 m2 c2] (0, 0) _ rfl (by first | exact kf | exact blk_drew kf) Tryz.underlying44 rfl (by kernel_rfl)) rfl ?_
 have hk1 : ∀ k, (start3 w #[.int .i64 i, .slice Ab nb cb, .string r, .slice Al nl cl, .string sr, .slice As ns cs, .int .i64 e]).heap.size ≤ k → k ≠ w.heap.size + 1 := fun k hk => by rw [start3_size] at hk; omega
 have hk2 : ∀ k, (start3 w #[.int .i64 i, .slice Ab nb cb, .string r, .slice Al nl cl, .string sr, .slice As ns cs, .int .i64 e]).heap.size ≤ k → w.heap.size ≤ k := fun k hk => by rw [start3_size] at hk; omega
 have q1 := far3 (Kd.V_below PK.out.2.2.2.1 PW0.out.1) hk1 (.int .u8 T) (.slice A1 m1 c1) (.slice A2 m2 c2)
 have q2 := far3 (Kd.V_below PK.out.2.2.2.2.1 PW0.out.1) hk1 (.int .u8 T) (.slice A1 m1 c1) (.slice A2 m2 c2)
 have q3 := set3 (below_step PK.out.2.2.2.2.2 PW0.out.1) (Nat.le_succ w.heap.size) (.int .u8 T) (.slice A1 m1 c1) (.slice A2 m2 c2)
 exact ⟨_, _, rfl, by first | exact Kd.V_mono q1 hk2 | exact Kd.V_drew (Kd.V_mono q1 hk2), by first | exact Kd.V_mono q2 hk2 | exact Kd.V_drew (Kd.V_mono q2 hk2), by first | exact q3 | exact below_drew1 q3⟩
end Go.Proofs.YtncanijjnhkgbaaGreatDoor.PMsgsPut
namespace Go.Proofs.YtncanijjnhkgbaaGreatDoor.PMsgsPut
open Go.RowKit Go.Proofs.YtncanijjnhkgbaaGreatDoorW.PrintWords Go.Proofs.YtncanijjnhkgbaaGreatDoorW.PrintLast Go.Proofs.YtncanijjnhkgbaaGreatDoorW.PrintMore
def NodeR (w : World) (n : S44) (e : Ending) (w' : World) : Prop :=
 ∃ v1 v2 : Value, e = .returned (.agg #[.int .u8 n.f0, v1, v2]) ∧ Kd.V (Kd.int .u8) 5 w' w.heap.size (fun k => w.heap.size ≤ k) v1 n.f1 ∧ Kd.V k44 44 w' w.heap.size (fun k => w.heap.size ≤ k) v2 n.f2 ∧ Below w.heap.size w w'
theorem leaf_R {w w' : World} {e : Ending} {n : S44} (h : ∃ v1 v2 : Value, e = .returned (.agg #[.int .u8 n.f0, v1, v2]) ∧ Kd.R (Kd.int .u8) 5 w' w.heap.size (fun _ => True) v1 n.f1 ∧ Kd.R k44 44 w' w.heap.size (fun k => some k ≠ v1.ownBlock) v2 n.f2 ∧ Below w.heap.size w w') : NodeR w n e w' := by
 obtain ⟨v1, v2, he, h1, h2, hb⟩ := h
 exact ⟨v1, v2, he, R_V_own h1, Kd.V_mono (Kd.R_V (Kd.R_bound h2)) (fun _ hk => hk.2.1), hb⟩
theorem node_end {w W w2 : World} {g : Nat} {n : S44} {A B : Option Addr} {a b : Nat} (hk : w2.heap[g]? = some (.cells #[.int .u8 0, .slice none 0 0, .slice none 0 0] 44)) (hw : Below w.heap.size w W) (hg : w.heap.size ≤ g) (hgW : g < W.heap.size)
  (h1 : Kd.V (Kd.int .u8) 5 w2 W.heap.size (fun k => W.heap.size ≤ k) (.slice A n.f1.length a) n.f1) (h2 : Kd.V k44 44 w2 W.heap.size (fun k => W.heap.size ≤ k) (.slice B n.f2.length b) n.f2) (hb : Below W.heap.size W w2) :
  NodeR w n (.returned (.agg #[.int .u8 n.f0, .slice A n.f1.length a, .slice B n.f2.length b])) (((w2.setCell ⟨g, 0, none⟩ (.int .u8 n.f0)).setCell ⟨g, 1, none⟩ (.slice A n.f1.length a)).setCell ⟨g, 2, none⟩ (.slice B n.f2.length b)) := by
 have hs := hw.size
 refine ⟨_, _, rfl, Kd.V_mono (far3 h1 (fun k hk => by omega) _ _ _) (fun k hk => by omega), Kd.V_mono (far3 h2 (fun k hk => by omega) _ _ _) (fun k hk => by omega), set3 (below_step hw hb) hg _ _ _⟩
set_option maxRecDepth 100000 in
set_option maxHeartbeats 1000000 in
theorem rTime_calls (s : Int) (h1 : -631152000 ≤ s) (h2 : s ≤ 253402300799) (w : World) :
  Calls Tryz.prog 30 #[.int .i64 s] w (NodeR w ⟨timeT s, timeE s, []⟩) := by
 have F := Aside0.mk (fun W => refPut_yes s h1 h2 W)
 have hbV := below_alloc (Below.refl w.heap.size w) (.cells #[.int .u8 0, .slice none 0 0, .slice none 0 0] 44)
 have hkn := blk_new w (.cells #[.int .u8 0, .slice none 0 0, .slice none 0 0] 44)
 have PW := Aside0.mk (And.intro hbV hkn)
 clear hbV hkn h1 h2
 go_enter Tryz.func30, Tryz.ntmps30
 go_wp2_with (go_at_call 63; (with_reducible refine (F.out _).mono ?_); rintro e w2 ⟨v, rfl, hR, hb⟩; obtain ⟨N1, n1, rfl⟩ := Kd.R_slice hR; have kn := blk_below PW.out.2 hb; have zn0 := (blk_cell kn 0).trans rfl; have zn1 := (blk_cell kn 1).trans rfl; have zn2 := (blk_cell kn 2).trans rfl; have yn0 := blk_frozen kn 0; have yn1 := blk_frozen kn 1; have yn2 := blk_frozen kn 2; have PV := Aside0.mk (And.intro hR (And.intro hb kn)); clear hR hb kn)
 refine bodyPost_ret (results_cell_row rfl _ _ w.heap.size 44 #[.int .u8 (timeT s), .slice N1 (timeE s).length n1, .slice none 0 0] (0, 0) _ rfl (put3 PV.out.2.2 _ _ _) Tryz.underlying44 rfl (by kernel_rfl)) rfl ?_
 exact node_end (n := ⟨timeT s, timeE s, []⟩) PV.out.2.2 PW.out.1 (Nat.le_refl _) (blk_lt PW.out.2) (R_V_own PV.out.1) (Kd.V_nil _ _ _ _ _) PV.out.2.1
end Go.Proofs.YtncanijjnhkgbaaGreatDoor.PMsgsPut
namespace Go.Proofs.YtncanijjnhkgbaaGreatDoor.PMsgsPut
open Go.RowKit Go.Proofs.YtncanijjnhkgbaaGreatDoorW.PrintWords Go.Proofs.YtncanijjnhkgbaaGreatDoorW.PrintLast Go.Proofs.YtncanijjnhkgbaaGreatDoorW.PrintMore
theorem node_FK {W : World} {e e' b b' : Nat} {ok : Nat → Prop} {A B : Option Addr} {c d : Nat} {n : S44} (h1 : Kd.V (Kd.int .u8) e W b ok (.slice A n.f1.length c) n.f1) (h2 : Kd.V k44 e' W b' ok (.slice B n.f2.length d) n.f2) : Kd.FK k44 W ok n [.int .u8 n.f0, .slice A n.f1.length c, .slice B n.f2.length d] :=
 k44_mkF W ok n (Kd.V_at h1).2.1 (Kd.V_at h1).2.2 (Kd.V_at h2).2.1 (Kd.V_at h2).2.2
theorem lit_N {α : Type} (d : Kd α) {e : Nat} {W : World} {xs : List α} {inner : List Value} {ok okp : Nat → Prop} (hrep : Reps (Kd.FK d W okp) d.sz xs inner) (hok : ∀ k, okp k → ok k) (hfresh : ok W.heap.size) (hm : xs.length ≤ 9223372036854775807) :
  Kd.N d e (W.alloc (.cells inner.toArray e)) W.heap.size ok (.slice (some ⟨W.heap.size, 0, none⟩) xs.length xs.length) xs := by
 have hraw := Kd.reps_raw hrep (fun y c hk => ⟨d.K_len (Kd.FK_now hk), d.K_one (Kd.FK_now hk)⟩)
 refine Kd.N_made (W := W) (rows := Kd.chunks d.sz xs.length inner) (okp := okp) ⟨fun k hk => ?_, inner, ?_, ?_⟩ (World.grownBy_alloc W _ none) ⟨W.heap.size, by simp [Value.ownBlock], Nat.le_refl _⟩ (Kd.chunks_length _ _ _) (fun j y c hy hc => by rw [Kd.chunks_get hc]; exact hrep.2 j y hy) hok hfresh
 ·have : W.heap.size = k := by simpa [Value.ownBlock] using hk
  exact this.symm
 ·have h2 := World.ownsRow_lit (base := W.heap.size) (e := e) (size := d.sz) W inner.toArray xs.length (Nat.le_refl _) (by simpa [maxLen] using hm) (by simpa using hrep.1)
  rw [Kd.chunks_length]
  have h3 : (W.alloc (.cells inner.toArray e)).ownsRow W.heap.size e d.sz (.slice (some ⟨W.heap.size, 0, none⟩) xs.length xs.length) xs.length inner := by simpa using h2
  exact h3
 ·exact hraw
theorem rSeq_calls (t : Int) (A : Option Addr) (n c : Nat) (w : World) : Calls Tryz.prog 15 #[.int .u8 t, .slice A n c] w fun e w' => e = .returned (.agg #[.int .u8 t, .slice none 0 0, .slice A n c]) ∧ Below w.heap.size w w' := by
 go_enter Tryz.func15, Tryz.ntmps15
 go_wp2
 refine bodyPost_ret (results_cell_row rfl _ _ w.heap.size 44 #[.int .u8 t, .slice none 0 0, .slice A n c] (0, 0) _ rfl (blk_new _ _) Tryz.underlying44 rfl (by kernel_rfl)) rfl ?_
 exact ⟨rfl, below_alloc (Below.refl _ _) _⟩
theorem rText_calls (s : ByteArray) (h : s.size ≤ 1048576) (w : World) : Calls Tryz.prog 65 #[.int .u8 27, .string s] w (NodeR w (textN s)) := by
 refine (warderref09_Text.calls 27 s 27 (bytesOf s) [] w (by unfold warderref09_Text.f; rw [if_pos h])).mono ?_
 rintro e w' h
 exact h
theorem pair_reps {w wr w1 w2 : World} {r : ByteArray} {xs : List S44} {Ak N1 N2 : Option Addr} {i ck n1 n2 : Nat} (hl : w.heap.size + 2 ≤ wr.heap.size) (hN : Kd.N k44 44 wr w.heap.size (fun k => w.heap.size + 1 < k) (.slice Ak i ck) xs) (hi : xs.length = i)
  (h1 : Kd.V (Kd.int .u8) 5 w1 wr.heap.size (fun k => wr.heap.size ≤ k) (.slice N1 (textN r).f1.length n1) (textN r).f1) (h2 : Kd.V k44 44 w1 wr.heap.size (fun k => wr.heap.size ≤ k) (.slice N2 (textN r).f2.length n2) (textN r).f2) (hb : Below wr.heap.size wr w1) (hb2 : Below w1.heap.size w1 w2) :
  Reps (Kd.FK k44 w2 (fun k => w.heap.size + 1 < k)) 3 [textN r, ⟨48, [], xs⟩] [.int .u8 27, .slice N1 (textN r).f1.length n1, .slice N2 (textN r).f2.length n2, .int .u8 48, .slice none 0 0, .slice Ak i ck] := by
 subst hi
 refine Reps.c3 (node_FK (n := textN r) (Kd.V_mono (Kd.V_below h1 hb2) (fun k hk => by omega)) (Kd.V_mono (Kd.V_below h2 hb2) (fun k hk => by omega))) (Reps.c3 (node_FK (n := ⟨48, [], xs⟩) (e := 5) (b := 0) (Kd.V_nil _ _ _ _ _) (Kd.V_below (Kd.V_below (Kd.N_V (base' := 0) hN) hb) hb2)) (Reps.none _ _))
set_option maxRecDepth 100000 in
set_option maxHeartbeats 2000000 in
theorem rPrincNode_calls (r : ByteArray) (A1 : Option Addr) (c1 : Nat) (l : List ByteArray) (w : World) (hr : Kd.C Kd.string w A1 l.length l) (hp : SmallP r l) :
  Calls Tryz.prog 33 #[.agg #[.string r, .slice A1 l.length c1]] w (NodeR w ⟨48, [], princK r l⟩) := by
 have PR := Aside0.mk hr
 have PS := Aside0.mk hp
 have FR := Aside0.mk (rText_calls r hp.size)
 obtain ⟨n, hn⟩ : ∃ n, n = l.length := ⟨_, rfl⟩
 have PN := Aside0.mk hn
 have hl : n ≤ 1048576 := by rw [hn]; exact hp.len
 rw [← hn]
 clear hr hp hn
 go_enter Tryz.func33, Tryz.ntmps33
 go_wp2
 go_loopg [3, 4] n (fun g v3 v4 wx => ∃ i : Nat, i + g = n ∧ v4 = .int .i64 i ∧ wx.heap[w.heap.size]? = some (.cells #[.string r, .slice A1 n c1] 32) ∧ wx.heap[w.heap.size + 1]? = some (.cells #[.int .u8 0, .slice none 0 0, .slice none 0 0] 44) ∧ Kd.N k44 44 wx w.heap.size (fun k => w.heap.size + 1 < k) v3 ((l.take i).map textN) ∧ Below w.heap.size w wx)
 case atStart => exact ⟨0, by omega, rfl, blk_alloc (blk_new _ _) _, blk_new1 _ _ _, by simpa using Kd.N_nil _ _ _ _ _, below_alloc (below_alloc (Below.refl _ _) _) _⟩
 case round =>
  obtain ⟨i, hig, rfl, hk0, hk1, hN, hb⟩ := hrel
  have hml : ((l.take i).map textN).length = i := by rw [List.length_map, List.length_take, ← PN.out]; omega
  obtain ⟨Ak, ck, hv⟩ := Kd.N_slice hN
  rw [hml] at hv
  subst hv
  have p0 := (blk_cell hk0 0).trans rfl
  have p1 := (blk_cell hk0 1).trans rfl
  have hlt : w.heap.size + 2 ≤ wr.heap.size := blk_lt hk1
  have PK := Aside0.mk (And.intro hk0 (And.intro hk1 (And.intro hN (And.intro hb hml))))
  have PL := Aside0.mk hlt
  cases gk with
  | zero =>
   obtain rfl : i = n := by omega
   clear hk0 hk1 hN hb hml hig hlt
   have hml := PK.out.2.2.2.2
   have hP : princK r l = [textN r, ⟨48, [], (l.take i).map textN⟩] := by rw [PN.out, List.take_length]; rfl
   have PH := Aside0.mk hP
   clear hP hml
   go_wp2_with (first | (go_at_call 65; (with_reducible refine (FR.out _).mono ?_); rintro e w1 ⟨v1, v2, rfl, hV1, hV2, hb⟩; obtain ⟨N1, n1, rfl⟩ := Kd.V_slice hV1; obtain ⟨N2, n2, rfl⟩ := Kd.V_slice hV2; have P1 := Aside0.mk (And.intro hV1 (And.intro hV2 hb)); clear hV1 hV2 hb) | (go_at_call 15; (with_reducible refine (rSeq_calls 48 Ak i ck _).mono ?_); rintro e w2 ⟨rfl, hb⟩; have P2 := Aside0.mk hb; clear hb) | (go_at_call 15; (with_reducible refine (rSeq_calls 48 (some ⟨w2.heap.size, 0, none⟩) 2 2 _).mono ?_); rintro e w6 ⟨rfl, hb⟩; have hN5 := lit_N k44 (e := 44) (ok := fun k => w.heap.size + 1 < k) (pair_reps PL.out PK.out.2.2.1 PK.out.2.2.2.2 P1.out.1 P1.out.2.1 P1.out.2.2 P2.out) (fun _ hk => hk) (by have h1 := PL.out; have h2 := P1.out.2.2.size; have h3 := P2.out.size; show w.heap.size + 1 < w2.heap.size; omega) (by simp); have P5 := Aside0.mk hN5; clear hN5; have hw6 := below_step (below_alloc (below_step P1.out.2.2 P2.out) _) hb; have kn := blk_below PK.out.2.1 hw6; have zn0 := (blk_cell kn 0).trans rfl; have zn1 := (blk_cell kn 1).trans rfl; have zn2 := (blk_cell kn 2).trans rfl; have yn0 := blk_frozen kn 0; have yn1 := blk_frozen kn 1; have yn2 := blk_frozen kn 2; have P6 := Aside0.mk (And.intro hw6 (And.intro hb kn)); clear hw6 hb kn))
   refine bodyPost_ret (results_cell_row rfl _ _ (w.heap.size + 1) 44 #[.int .u8 48, .slice none 0 0, .slice (some ⟨w2.heap.size, 0, none⟩) 2 2] (0, 0) _ rfl (put3 P6.out.2.2 _ _ _) Tryz.underlying44 rfl (by kernel_rfl)) rfl ?_
   have hV := far3 (g := w.heap.size + 1) (Kd.V_below (Kd.N_V (base' := w.heap.size) P5.out) P6.out.2.1) (fun k hk => Nat.ne_of_gt hk) (.int .u8 48) (.slice none 0 0) (.slice (some ⟨w2.heap.size, 0, none⟩) 2 2)
   rw [← PH.out] at hV
   exact ⟨_, _, rfl, Kd.V_nil _ _ _ _ _, Kd.V_mono (ok := fun k => w.heap.size + 1 < k) hV (fun k hk => Nat.le_of_lt (Nat.lt_of_succ_lt hk)), set3 (below_step PK.out.2.2.2.1 P6.out.1) (Nat.le_succ _) _ _ _⟩
  | succ g =>
   have hil : i < l.length := by rw [← PN.out]; omega
   obtain ⟨ad, rfl, hcell⟩ := Kd.at_string (Kd.C_below PR.out hb) (i : Int) (by omega) (by omega)
   obtain ⟨s, hsl⟩ : ∃ s, s = l[i] := ⟨_, rfl⟩
   rw [rd_str l i hil, ← hsl, Int.toNat_natCast] at hcell
   have FS := Aside0.mk (rText_calls s (by rw [hsl]; exact PS.out.all _ (List.getElem_mem hil)))
   have ht : (l.take (i + 1)).map textN = (l.take i).map textN ++ [textN s] := by rw [List.take_succ_eq_append_getElem hil, ← hsl, List.map_append]; rfl
   have hw1 : wrap64 ((i : Int) + 1) = ((i + 1 : Nat) : Int) := by unfold wrap64; omega
   have hin : i < n := by omega
   have PT := Aside0.mk ht
   have hl2 := PL.out
   clear hk0 hk1 hN hb hml hlt hsl ht hil
   go_wp2_with (first | (go_at_call 65; (with_reducible refine (FS.out _).mono ?_); rintro e w1 ⟨v1, v2, rfl, hV1, hV2, hb⟩; obtain ⟨N1, n1, rfl⟩ := Kd.V_slice hV1; obtain ⟨N2, n2, rfl⟩ := Kd.V_slice hV2; have P1 := Aside0.mk (And.intro hV1 (And.intro hV2 hb)); clear hV1 hV2 hb) | ((with_reducible refine gate_builtin (b := .append) rfl ?_); at_builtin; refine Kd.N_append k44 (w0 := w) (W := w1) w.heap.size rfl _ _ 42 44 (.agg #[.int .u8 0, .slice none 0 0, .slice none 0 0]) 56 rfl Tryz.underlying42 info44 rfl (by decide) (by decide) (.slice Ak i ck) ((l.take i).map textN) (textN s) [.int .u8 (textN s).f0, .slice N1 (textN s).f1.length n1, .slice N2 (textN s).f2.length n2] (fun k => w.heap.size + 1 < k) (fun k => wr.heap.size ≤ k) rfl ?hx ?hp ?hokp ?hfr ?hO ?hB ?hba ?hle ?_; (case hx => rfl); (case hp => exact node_FK P1.out.1 P1.out.2.1); (case hokp => exact (fun k hk => ⟨Nat.lt_of_lt_of_le (Nat.lt_of_succ_le PL.out) hk, fun he => absurd (Kd.N_lt PK.out.2.2.1 k he.symm) (Nat.not_lt.2 hk)⟩)); (case hfr => exact (fun k hk => Nat.lt_of_lt_of_le (Nat.lt_of_succ_le PL.out) (Nat.le_trans P1.out.2.2.size hk))); (case hO => exact Kd.N_below PK.out.2.2.1 P1.out.2.2); (case hB => exact below_step PK.out.2.2.2.1 P1.out.2.2); (case hba => exact below_size (below_step PK.out.2.2.2.1 P1.out.2.2)); (case hle => (have h1 := PK.out.2.2.2.2; omega)); intro v1 w3 hN2 hb2 hg2 hat2; rw [← PT.out] at hN2; have PQ := Aside0.mk (And.intro hN2 (And.intro hb2 hg2)); clear hN2 hb2 hg2 hat2))
   go_roundg g
   case measure => omega
   case rel => exact ⟨i + 1, by omega, by first | rfl | rw [hw1], blk_grown (blk_below PK.out.1 P1.out.2.2) PQ.out.2.2 (fun he => by have := PK.out.2.2.1.1 _ he.symm; omega), blk_grown (blk_below PK.out.2.1 P1.out.2.2) PQ.out.2.2 (fun he => by have := PK.out.2.2.1.1 _ he.symm; omega), PQ.out.1, PQ.out.2.1⟩
end Go.Proofs.YtncanijjnhkgbaaGreatDoor.PMsgsPut
namespace Go.Proofs.YtncanijjnhkgbaaGreatDoor.PMsgsPut
open Go.RowKit Go.Proofs.YtncanijjnhkgbaaGreatDoorW.PrintWords Go.Proofs.YtncanijjnhkgbaaGreatDoorW.PrintLast Go.Proofs.YtncanijjnhkgbaaGreatDoorW.PrintMore
theorem rHandle_calls (n : Int) (h1 : 0 ≤ n) (h2 : n < 281474976710656) (w : World) : Calls Tryz.prog 32 #[.int .i64 n] w (NodeR w ⟨4, hE n, []⟩) := by
 obtain ⟨k, hk⟩ := (rHandle_some n h1 h2).of
 exact (warderref09_Handle.calls k n _ _ _ w hk).mono (fun e w' h => leaf_R h)
theorem rInt_calls (n : Int) (h1 : -9223372036854775808 ≤ n) (h2 : n ≤ 9223372036854775807) (w : World) : Calls Tryz.prog 35 #[.int .i64 n] w (NodeR w ⟨2, intE n, []⟩) := by
 obtain ⟨k, hk⟩ := (rInt_some n h1 h2).of
 exact (warderref09_Int.calls k n _ _ _ w hk).mono (fun e w' h => leaf_R h)
theorem rTruth_calls (b : Bool) (w : World) : Calls Tryz.prog 29 #[.bool b] w (NodeR w ⟨1, [if b = true then 255 else 0], []⟩) :=
 (warderref09_Truth.calls b _ _ _ w (rTruth_some b)).mono (fun e w' h => leaf_R h)
theorem rOctets_calls (A : Option Addr) (c : Nat) (l : List Int) (w : World) (hr : Kd.C (Kd.int .u8) w A l.length l) (hc : l.length ≤ c) (hl : l.length ≤ 1048576) : Calls Tryz.prog 31 #[.slice A l.length c] w (NodeR w ⟨4, l, []⟩) :=
 (warderref09_Octets.calls A c l _ _ _ w hr hc (rOctets_some l hl)).mono (fun e w' h => leaf_R h)
set_option maxRecDepth 100000 in
set_option maxHeartbeats 2000000 in
theorem rNode17_calls (r : ByteArray) (A1 : Option Addr) (c1 : Nat) (l : List ByteArray) (x : Int) (w : World) (hr : Kd.C Kd.string w A1 l.length l) (hp : SmallP r l) (h1 : 0 ≤ x) (h2 : x < 281474976710656) :
  Calls Tryz.prog 34 #[.agg #[.string r, .slice A1 l.length c1, .int .i64 x]] w (NodeR w ⟨97, [], [⟨48, [], [⟨48, [], princK r l⟩, ⟨4, hE x, []⟩]⟩]⟩) := by
 have FP := Aside0.mk (fun (W : World) (hb : Below w.heap.size w W) => rPrincNode_calls r A1 c1 l W (Kd.C_below hr hb) hp)
 have FH := Aside0.mk (rHandle_calls x h1 h2)
 obtain ⟨n, hn⟩ : ∃ n, n = l.length := ⟨_, rfl⟩
 rw [← hn] at FP ⊢
 clear hr hp hn h1 h2
 go_enter Tryz.func34, Tryz.ntmps34
 go_wp2_with (fail)
 have hkb := blk_alloc (blk_new w (.cells #[.string r, .slice A1 n c1, .int .i64 x] 34)) (.cells #[.int .u8 0, .slice none 0 0, .slice none 0 0] 44)
 have hkn := blk_new1 w (.cells #[.string r, .slice A1 n c1, .int .i64 x] 34) (.cells #[.int .u8 0, .slice none 0 0, .slice none 0 0] 44)
 have hbV := below_alloc (below_alloc (Below.refl w.heap.size w) (.cells #[.string r, .slice A1 n c1, .int .i64 x] 34)) (.cells #[.int .u8 0, .slice none 0 0, .slice none 0 0] 44)
 generalize (w.alloc (.cells #[.string r, .slice A1 n c1, .int .i64 x] 34)).alloc (.cells #[.int .u8 0, .slice none 0 0, .slice none 0 0] 44) = W at hkb hkn hbV ⊢
 have p0 := (blk_cell hkb 0).trans rfl
 have p1 := (blk_cell hkb 1).trans rfl
 have p2 := (blk_cell hkb 2).trans rfl
 have PG := Aside0.mk (And.intro hkb (And.intro hkn hbV))
 clear hkb hkn hbV
 go_region_held3 (fun w' => w'.cell? ⟨w.heap.size, 0, none⟩ = some (.string r) ∧ w'.cell? ⟨w.heap.size, 1, none⟩ = some (.slice A1 n c1) ∧ w'.cell? ⟨w.heap.size, 2, none⟩ = some (.int .i64 x)) (go_keep) (first | (go_at_call 33; refine (FP.out _ (below_drew1 PG.out.2.2)).mono ?_; rintro e w1 ⟨v1, v2, rfl, hV1, hV2, hb⟩; obtain ⟨N1, n1, rfl⟩ := Kd.V_slice hV1; obtain ⟨N2, n2, rfl⟩ := Kd.V_slice hV2; have hb1 : Below W.heap.size W w1 := below_step (below_drew1 (Below.refl W.heap.size W)) hb; have P1 := Aside0.mk (And.intro hV1 (And.intro hV2 hb1)); have p0 := (blk_cell (blk_below PG.out.1 hb1) 0).trans rfl; have p1 := (blk_cell (blk_below PG.out.1 hb1) 1).trans rfl; have p2 := (blk_cell (blk_below PG.out.1 hb1) 2).trans rfl; clear hb hb1 hV1 hV2) | (go_at_call 32; refine (FH.out _).mono ?_; rintro e w2 ⟨v1, v2, rfl, hV1, hV2, hb⟩; obtain ⟨M1, m1, rfl⟩ := Kd.V_slice hV1; obtain ⟨M2, m2, rfl⟩ := Kd.V_slice hV2; have hb2 := below_step P1.out.2.2 hb; have P2 := Aside0.mk (And.intro hV1 (And.intro hV2 (And.intro hb hb2))); have p0 := (blk_cell (blk_below PG.out.1 hb2) 0).trans rfl; have p1 := (blk_cell (blk_below PG.out.1 hb2) 1).trans rfl; have p2 := (blk_cell (blk_below PG.out.1 hb2) 2).trans rfl; clear hb hb2 hV1 hV2) | (go_at_call 15; (with_reducible refine (rSeq_calls 97 (some ⟨w3.heap.size, 0, none⟩) 1 1 _).mono ?_); rintro e w4 ⟨rfl, hb⟩; have hN := lit_N k44 (e := 44) (ok := fun k => W.heap.size ≤ k) (xs := [⟨48, [], [⟨48, [], princK r l⟩, ⟨4, hE x, []⟩]⟩]) (Reps.c3 (node_FK (n := ⟨48, [], [⟨48, [], princK r l⟩, ⟨4, hE x, []⟩]⟩) (e := 5) (b := 0) (Kd.V_nil _ _ _ _ _) P3.out.1) (Reps.none _ _)) (fun _ hk => hk) P3.out.2.size (by simp); have hb4 := below_step (below_alloc P3.out.2 _) hb; have kn := blk_below PG.out.2.1 hb4; have zn0 := (blk_cell kn 0).trans rfl; have zn1 := (blk_cell kn 1).trans rfl; have zn2 := (blk_cell kn 2).trans rfl; have yn0 := blk_frozen kn 0; have yn1 := blk_frozen kn 1; have yn2 := blk_frozen kn 2; have P4 := Aside0.mk (And.intro (Kd.V_below (Kd.N_V (base' := 0) hN) hb) (And.intro hb4 kn)); have p0 := (blk_cell (blk_below PG.out.1 hb4) 0).trans rfl; have p1 := (blk_cell (blk_below PG.out.1 hb4) 1).trans rfl; have p2 := (blk_cell (blk_below PG.out.1 hb4) 2).trans rfl; clear hb hb4 hN kn) | (go_at_call 15; (with_reducible refine (rSeq_calls 48 (some ⟨w2.heap.size, 0, none⟩) 2 2 _).mono ?_); rintro e w3 ⟨rfl, hb⟩; have hN := lit_N k44 (e := 44) (ok := fun k => W.heap.size ≤ k) (xs := [⟨48, [], princK r l⟩, ⟨4, hE x, []⟩]) (Reps.c3 (node_FK (n := ⟨48, [], princK r l⟩) (Kd.V_below P1.out.1 P2.out.2.2.1) (Kd.V_below P1.out.2.1 P2.out.2.2.1)) (Reps.c3 (node_FK (n := ⟨4, hE x, []⟩) (Kd.V_mono P2.out.1 (fun k hk => Nat.le_trans P1.out.2.2.size hk)) (Kd.V_mono P2.out.2.1 (fun k hk => Nat.le_trans P1.out.2.2.size hk))) (Reps.none _ _))) (fun _ hk => hk) P2.out.2.2.2.size (by simp); have hb3 := below_step (below_alloc P2.out.2.2.2 _) hb; have P3 := Aside0.mk (And.intro (Kd.V_below (Kd.N_V (base' := 0) hN) hb) hb3); have p0 := (blk_cell (blk_below PG.out.1 hb3) 0).trans rfl; have p1 := (blk_cell (blk_below PG.out.1 hb3) 1).trans rfl; have p2 := (blk_cell (blk_below PG.out.1 hb3) 2).trans rfl; clear hb hb3 hN))
 go_wp2
 refine bodyPost_ret (results_cell_row rfl _ _ (w.heap.size + 1) 44 #[.int .u8 97, .slice none 0 0, .slice (some ⟨w3.heap.size, 0, none⟩) 1 1] (0, 0) _ rfl (put3 P4.out.2.2 _ _ _) Tryz.underlying44 rfl (by kernel_rfl)) rfl ?_
 exact node_end (n := ⟨97, [], [⟨48, [], [⟨48, [], princK r l⟩, ⟨4, hE x, []⟩]⟩]⟩) P4.out.2.2 PG.out.2.2 (Nat.le_succ _) (blk_lt PG.out.2.1) (Kd.V_nil _ _ _ _ _) P4.out.1 P4.out.2.1
end Go.Proofs.YtncanijjnhkgbaaGreatDoor.PMsgsPut
namespace Go.Proofs.YtncanijjnhkgbaaGreatDoor.PMsgsPut
open Go.RowKit Go.Proofs.YtncanijjnhkgbaaGreatDoorW.PrintWords Go.Proofs.YtncanijjnhkgbaaGreatDoorW.PrintLast Go.Proofs.YtncanijjnhkgbaaGreatDoorW.PrintMore
set_option maxRecDepth 100000 in
set_option maxHeartbeats 2000000 in
theorem rNode_calls (c : Int) (x : S36) (A1 : Option Addr) (c1 : Nat) (A3 : Option Addr) (c3 : Nat) (A5 : Option Addr) (c5 : Nat) (w : World) (h : ValC w x A1 c1 A3 c3 A5 c5) (hx : Small x) (ho : partOk (code c) x = true) :
  Calls Tryz.prog 13 #[.int .u8 c, .agg (valV x A1 c1 A3 c3 A5 c5)] w (NodeR w (partN (code c) x)) := by
 have hs := state_some (code c) x hx
 obtain ⟨nd, hnd⟩ : ∃ nd, nd = partN (code c) x := ⟨_, rfl⟩
 rw [← hnd]
 have hso : (partQ (code c) x).2.2.2 = true := ho
 have hsn : nd = ⟨(partQ (code c) x).1, (partQ (code c) x).2.1, (partQ (code c) x).2.2.1⟩ := hnd
 generalize partQ (code c) x = q at hs hso hsn
 obtain ⟨T, bd, ks, o⟩ := q
 subst hso
 simp only at hsn
 clear hnd ho
 unfold valV
 unfold stV stateO at hs
 by_cases h1 : c = 98
 case' pos =>
  subst h1
  rw [show code 98 = 1 by rfl, if_neg (by decide), if_pos rfl] at hs
  simp only [Option.some.injEq, Prod.mk.injEq] at hs
  have F := Aside0.mk (fun (W : World) (_ : Below w.heap.size w W) => rTruth_calls (x.f0 == 1) W)
  rw [show (⟨1, [if (x.f0 == 1) = true then 255 else 0], []⟩ : S44) = nd by rw [hsn, ← hs.1, ← hs.2.1, ← hs.2.2.1]; congr 2; simp] at F
 case' neg =>
  have n1 : (c == 98) = false := beq_eq_false_iff_ne.2 h1
  by_cases h2 : c = 116
  case' pos =>
   subst h2
   rw [show code 116 = 2 by rfl, if_neg (by decide), if_neg (by decide), if_pos rfl] at hs
   have hb : -631152000 ≤ x.f0 ∧ x.f0 ≤ 253402300799 := by
    by_cases hb : -631152000 ≤ x.f0 ∧ x.f0 ≤ 253402300799
    ·exact hb
    ·rw [if_neg hb] at hs; simp at hs
   rw [if_pos hb] at hs
   simp only [Option.some.injEq, Prod.mk.injEq] at hs
   have F := Aside0.mk (fun (W : World) (_ : Below w.heap.size w W) => rTime_calls x.f0 hb.1 hb.2 W)
   rw [hs.1, hs.2.1, show ([] : List (S44)) = ks from hs.2.2.1, ← hsn] at F
   clear hb
  case' neg =>
   have n2 : (c == 116) = false := beq_eq_false_iff_ne.2 h2
   by_cases h3 : c = 111
   case' pos =>
    subst h3
    rw [show code 111 = 3 by rfl, if_neg (by decide), if_neg (by decide), if_neg (by decide), if_pos rfl] at hs
    have hb : x.f1.length ≤ 1048576 := by
     by_cases hb : x.f1.length ≤ 1048576
     ·exact hb
     ·rw [if_neg hb] at hs; simp at hs
    rw [if_pos hb] at hs
    simp only [Option.some.injEq, Prod.mk.injEq] at hs
    have F := Aside0.mk (fun (W : World) (hb2 : Below w.heap.size w W) => rOctets_calls A1 c1 x.f1 W (Kd.C_below h.g1 hb2) h.l1 hb)
    rw [show (⟨4, x.f1, []⟩ : S44) = nd by rw [hsn, ← hs.1, ← hs.2.1, ← hs.2.2.1]] at F
    clear hb
   case' neg =>
    have n3 : (c == 111) = false := beq_eq_false_iff_ne.2 h3
    by_cases h4 : c = 104
    case' pos =>
     subst h4
     rw [show code 104 = 4 by rfl, if_neg (by decide), if_neg (by decide), if_neg (by decide), if_neg (by decide), if_pos rfl] at hs
     have hb : 0 ≤ x.f0 ∧ x.f0 < 281474976710656 := by
      by_cases hb : 0 ≤ x.f0 ∧ x.f0 < 281474976710656
      ·exact hb
      ·rw [if_neg hb] at hs; simp at hs
     rw [if_pos hb] at hs
     simp only [Option.some.injEq, Prod.mk.injEq] at hs
     have F := Aside0.mk (fun (W : World) (_ : Below w.heap.size w W) => rHandle_calls x.f0 hb.1 hb.2 W)
     rw [show (⟨4, hE x.f0, []⟩ : S44) = nd by rw [hsn, ← hs.1, ← hs.2.1, ← hs.2.2.1]] at F
     clear hb
    case' neg =>
     have n4 : (c == 104) = false := beq_eq_false_iff_ne.2 h4
     by_cases h5 : c = 112
     case' pos =>
      subst h5
      rw [show code 112 = 5 by rfl, if_neg (by decide), if_neg (by decide), if_neg (by decide), if_neg (by decide), if_neg (by decide), if_pos rfl] at hs
      unfold princO at hs
      rw [if_pos ⟨hx.princ.len, hx.princ.size, hx.princ.all⟩] at hs
      by_cases hb : princOk x.f2.f0 x.f2.f1 = true
      case neg => rw [if_neg hb] at hs; simp at hs
      rw [if_pos hb] at hs
      simp only [Option.bind_some, Option.some.injEq, Prod.mk.injEq] at hs
      have F := Aside0.mk (fun (W : World) (hb2 : Below w.heap.size w W) => rPrincNode_calls x.f2.f0 A3 c3 x.f2.f1 W (Kd.C_below h.g3 hb2) hx.princ)
      rw [show (⟨48, [], princK x.f2.f0 x.f2.f1⟩ : S44) = nd by rw [hsn, ← hs.1, ← hs.2.1, ← hs.2.2.1]] at F
      clear hb
     case' neg =>
      have n5 : (c == 112) = false := beq_eq_false_iff_ne.2 h5
      by_cases h6 : c = 107
      case' pos =>
       subst h6
       rw [show code 107 = 6 by rfl, if_neg (by decide), if_neg (by decide), if_neg (by decide), if_neg (by decide), if_neg (by decide), if_neg (by decide)] at hs
       unfold ticketO at hs
       rw [if_pos ⟨hx.server.len, hx.server.size, hx.server.all⟩] at hs
       by_cases hb : princOk x.f3.f0.f0 x.f3.f0.f1 = true ∧ 0 ≤ x.f3.f1 ∧ x.f3.f1 < 281474976710656
       case neg => rw [if_neg hb] at hs; simp at hs
       rw [if_pos hb] at hs
       simp only [Option.bind_some, Option.some.injEq, Prod.mk.injEq] at hs
       have F := Aside0.mk (fun (W : World) (hb2 : Below w.heap.size w W) => rNode17_calls x.f3.f0.f0 A5 c5 x.f3.f0.f1 x.f3.f1 W (Kd.C_below h.g5 hb2) hx.server hb.2.1 hb.2.2)
       rw [show (⟨97, [], [⟨48, [], [⟨48, [], princK x.f3.f0.f0 x.f3.f0.f1⟩, ⟨4, hE x.f3.f1, []⟩]⟩]⟩ : S44) = nd by rw [hsn, ← hs.1, ← hs.2.1, ← hs.2.2.1]] at F
       clear hb
      case' neg =>
       have n6 : (c == 107) = false := beq_eq_false_iff_ne.2 h6
       have hc : code c = 0 := by unfold code; rw [if_neg h1, if_neg h2, if_neg h3, if_neg h4, if_neg h5, if_neg h6]
       rw [hc, if_pos rfl, if_pos ⟨hx.lo, hx.hi⟩] at hs
       simp only [Option.some.injEq, Prod.mk.injEq] at hs
       have F := Aside0.mk (fun (W : World) (_ : Below w.heap.size w W) => rInt_calls x.f0 hx.lo hx.hi W)
       rw [show (⟨2, intE x.f0, []⟩ : S44) = nd by rw [hsn, ← hs.1, ← hs.2.1, ← hs.2.2.1]] at F
 all_goals
  clear hs hsn h hx
  go_enter Tryz.func13, Tryz.ntmps13
  go_wp2_with ((first | go_at_call 29 | go_at_call 30 | go_at_call 31 | go_at_call 32 | go_at_call 33 | go_at_call 34 | go_at_call 35); refine (F.out _ (below_alloc (below_alloc (Below.refl _ _) _) _)).mono ?_; rintro e w2 ⟨v1, v2, rfl, hV1, hV2, hb⟩; obtain ⟨N1, n1, rfl⟩ := Kd.V_slice hV1; obtain ⟨N2, n2, rfl⟩ := Kd.V_slice hV2; have kn := blk_below (blk_new1 w _ _) hb; have zn0 := (blk_cell kn 0).trans rfl; have zn1 := (blk_cell kn 1).trans rfl; have zn2 := (blk_cell kn 2).trans rfl; have yn0 := blk_frozen kn 0; have yn1 := blk_frozen kn 1; have yn2 := blk_frozen kn 2; have PV := Aside0.mk (And.intro hV1 (And.intro hV2 (And.intro hb kn))); clear hV1 hV2 hb kn)
  refine bodyPost_ret (results_cell_row rfl _ _ (w.heap.size + 1) 44 #[.int .u8 nd.f0, .slice N1 nd.f1.length n1, .slice N2 nd.f2.length n2] (0, 0) _ rfl (put3 PV.out.2.2.2 _ _ _) Tryz.underlying44 rfl (by kernel_rfl)) rfl ?_
  exact node_end (n := nd) PV.out.2.2.2 (below_alloc (below_alloc (Below.refl _ _) _) _) (Nat.le_succ _) (blk_lt (blk_new1 _ _ _)) PV.out.1 PV.out.2.1 PV.out.2.2.1
end Go.Proofs.YtncanijjnhkgbaaGreatDoor.PMsgsPut
namespace Go.Proofs.YtncanijjnhkgbaaGreatDoor.PMsgsPut
open Go.RowKit Go.Proofs.YtncanijjnhkgbaaGreatDoorW.PrintWords Go.Proofs.YtncanijjnhkgbaaGreatDoorW.PrintLast Go.Proofs.YtncanijjnhkgbaaGreatDoorW.PrintMore
def lett (c : Int) : UInt8 := if c = 1 then 98 else if c = 2 then 116 else if c = 3 then 111 else if c = 4 then 104 else if c = 5 then 112 else if c = 6 then 107 else 105
def formS (a0 : Int) : ByteArray := ⟨((shapeO a0).2.map lett).toArray⟩
theorem form_some (a0 : Int) : warderref18_form.f a0 = some ((shapeO a0).1, formS a0) ∧ ∀ c ∈ (shapeO a0).2, code ((lett c).toNat : Int) = c := by
 by_cases h1 : a0 = 1
 ·subst h1
  exact ⟨by rfl, by decide⟩
 by_cases h2 : a0 = 2
 ·subst h2
  exact ⟨by rfl, by decide⟩
 by_cases h3 : a0 = 3
 ·subst h3
  exact ⟨by rfl, by decide⟩
 by_cases h4 : a0 = 4
 ·subst h4
  exact ⟨by rfl, by decide⟩
 by_cases h5 : a0 = 5
 ·subst h5
  exact ⟨by rfl, by decide⟩
 by_cases h6 : a0 = 6
 ·subst h6
  exact ⟨by rfl, by decide⟩
 by_cases h7 : a0 = 7
 ·subst h7
  exact ⟨by rfl, by decide⟩
 by_cases h8 : a0 = 8
 ·subst h8
  exact ⟨by rfl, by decide⟩
 by_cases h9 : a0 = 9
 ·subst h9
  exact ⟨by rfl, by decide⟩
 by_cases h10 : a0 = 10
 ·subst h10
  exact ⟨by rfl, by decide⟩
 by_cases h11 : a0 = 11
 ·subst h11
  exact ⟨by rfl, by decide⟩
 by_cases h12 : a0 = 12
 ·subst h12
  exact ⟨by rfl, by decide⟩
 by_cases h13 : a0 = 13
 ·subst h13
  exact ⟨by rfl, by decide⟩
 have e : shapeO a0 = (0, []) := by unfold shapeO; rw [if_neg h1, if_neg h2, if_neg h3, if_neg h4, if_neg h5, if_neg h6, if_neg h7, if_neg h8, if_neg h9, if_neg h10, if_neg h11, if_neg h12, if_neg h13]
 unfold warderref18_form.f formS
 rw [if_neg h1, if_neg h2, if_neg h3, if_neg h4, if_neg h5, if_neg h6, if_neg h7, if_neg h8, if_neg h9, if_neg h10, if_neg h11, if_neg h12, if_neg h13, e]
 exact ⟨rfl, fun c hc => by cases hc⟩
theorem formS_size (a0 : Int) : (formS a0).size = (shapeO a0).2.length := by
 unfold formS ByteArray.size
 simp
theorem formS_at (a0 : Int) (i : Nat) (h : i < (shapeO a0).2.length) : code (bt (formS a0) (i : Int)) = (shapeO a0).2[i] := by
 have hb : bt (formS a0) (i : Int) = ((lett (shapeO a0).2[i]).toNat : Int) := by
  unfold bt
  rw [dif_pos (by rw [formS_size]; simpa using h)]
  congr 2
  show (((shapeO a0).2.map lett).toArray[(i : Int).toNat]'(by simpa using h)) = _
  simp
 rw [hb]
 exact (form_some a0).2 _ (List.getElem_mem h)
end Go.Proofs.YtncanijjnhkgbaaGreatDoor.PMsgsPut
namespace Go.Proofs.YtncanijjnhkgbaaGreatDoor.PMsgsPut
open Go.RowKit Go.Proofs.YtncanijjnhkgbaaGreatDoorW.PrintWords Go.Proofs.YtncanijjnhkgbaaGreatDoorW.PrintLast Go.Proofs.YtncanijjnhkgbaaGreatDoorW.PrintMore
attribute [local go_sem] max2_int min2_int max_two min_two max_three min_three max_four min_four
set_option linter.unusedVariables false
set_option linter.unusedSimpArgs false
mutual
noncomputable def warderref02_Int.j0 : Nat → List Int → Bool → Option (Int × Int)
 | 0, _, _ => none
 | k + 1, x0, x13 => if x13 = true then (some (0, 21)) else (if 0 < (x0.length : Int) then (warderref02_Int.l0 k x0 (wrap64 (IntKind.i8.wrap (rd x0 0))) 1) else (none))
noncomputable def warderref02_Int.l0 : Nat → List Int → Int → Int → Option (Int × Int)
 | 0, _, _, _ => none
 | k + 1, x0, x4, x5 => if x5 < (x0.length : Int) then (if 0 ≤ x5 then (warderref02_Int.l0 k x0 (Go.bits .or .i64 (wrap64 (x4 * 256)) (wrap64 (rd x0 x5))) (wrap64 (x5 + 1))) else (none)) else (if (x0.length : Int) > 1 then (if 0 < (x0.length : Int) then (if (rd x0 0) = 0 then (if 1 < (x0.length : Int) then (if (rd x0 1) < 128 then (some (0, 21)) else (if (rd x0 0) = 255 then (if (rd x0 1) ≥ 128 then (some (0, 21)) else (some (x4, 0))) else (some (x4, 0)))) else (none)) else (if (rd x0 0) = 255 then (if 1 < (x0.length : Int) then (if (rd x0 1) ≥ 128 then (some (0, 21)) else (some (x4, 0))) else (none)) else (some (x4, 0)))) else (none)) else (some (x4, 0)))
end
noncomputable def warderref02_Int.f (k : Nat) (l0 : List Int) : Option (Int × Int) := if (l0.length : Int) < 1 then (warderref02_Int.j0 k l0 true) else (warderref02_Int.j0 k l0 (decide ((l0.length : Int) > 8)))
set_option maxHeartbeats 8000000 in
set_option maxRecDepth 100000 in
theorem warderref02_Int.calls (k : Nat) (A0 : Option Addr) (c0 : Nat) (l0 : List Int) (r1 : Int) (r2 : Int) (w : World) (hr0 : Kd.C (Kd.int .u8) w A0 l0.length l0) (hc0 : l0.length ≤ c0) (h : warderref02_Int.f k l0 = some (r1, r2)) :
  Calls Tryz.prog 95 #[.slice A0 l0.length c0] w fun e w' => e = .returned (.tuple #[.int .i64 r1, .int .i64 r2]) ∧ Drawn0 w w' := by
 have HR0 := Aside0.mk hr0
 have HC0 := Aside0.mk hc0
 clear hr0 hc0
 have H : (if (l0.length : Int) < 1 then (warderref02_Int.j0 k l0 true) else (warderref02_Int.j0 k l0 (decide ((l0.length : Int) > 8)))) = some (r1, r2) := h
 clear h
 have HC2 := Aside0.mk H
 clear H
 go_enter Tryz.func95, Tryz.ntmps95
 go_upto_region 1 with (fail)
 go_cut [13] (fun v13 wc => ∃ (kq : Nat) (x13_1 : Bool), v13 = .bool x13_1 ∧ Aside0 (warderref02_Int.j0 kq l0 x13_1 = some (r1, r2)) ∧ Aside0 (kq ≤ k) ∧ Drawn0 w wc)
 case first =>
  have H := HC2.out
  clear HC2
  by_cases c3 : (l0.length : Int) < 1
  ·rw [if_pos c3] at H
   have c3b0 : decide ((l0.length : Int) < 1) = true := decide_eq_true c3
   have c3b1 : decide (l0.length < 1) = true := decide_eq_true (by omega)
   clear c3
   (first | rw [c3b0] | (simp only [i64_w, i32_w]; rw [c3b0]) | skip)
   have H' := Aside0.mk H
   clear H
   go_wp2
   go_meet
   case rel => exact ⟨_, (true), (by first | rfl | (simp; done) | (simp [*]; done)), H', ⟨by first | omega | exact Nat.le_refl _⟩, by repeat (first | exact Drawn0.refl _ | apply Drawn0.step)⟩
  ·rw [if_neg c3] at H
   have c3b0 : decide ((l0.length : Int) < 1) = false := decide_eq_false c3
   have c3b1 : decide (l0.length < 1) = false := decide_eq_false (by omega)
   clear c3
   (first | rw [c3b0] | (simp only [i64_w, i32_w]; rw [c3b0]) | skip)
   have H' := Aside0.mk H
   clear H
   go_wp2
   go_meet
   case rel => exact ⟨_, (decide ((l0.length : Int) > 8)), (by first | rfl | (simp; done) | (simp [*]; done)), H', ⟨by first | omega | exact Nat.le_refl _⟩, by repeat (first | exact Drawn0.refl _ | apply Drawn0.step)⟩
 case rest =>
  clear HC2
  try clear p2
  try clear c3
  try clear c3b0
  try clear c3b1
  obtain ⟨kq, x13_1, rfl, HA, HJ1, ⟨mc1, rfl⟩⟩ := hcut
  cases kq with
  | zero => exact absurd HA.out (by simp [warderref02_Int.j0])
  | succ kj1 =>
   have H := HA.out
   clear HA
   simp only [warderref02_Int.j0] at H
   by_cases c4 : x13_1 = true
   ·subst c4
    have H1 : (some (0, 21)) = some (r1, r2) := by rw [if_pos rfl] at H; exact H
    clear H
    have H := H1
    clear H1
    simp only [Option.some.injEq, Prod.mk.injEq] at H
    obtain ⟨rfl, rfl⟩ := H
    go_wp2
    go_ret2
    exact ⟨by first | rfl | (simp; done) | (simp [*]; done), by repeat (first | exact Drawn0.refl _ | apply Drawn0.step)⟩
   ·replace c4 := Bool.eq_false_iff.mpr c4
    subst c4
    have H1 : (if 0 < (l0.length : Int) then (warderref02_Int.l0 kj1 l0 (wrap64 (IntKind.i8.wrap (rd l0 0))) 1) else (none)) = some (r1, r2) := by rw [if_neg (show ¬ (false = true) by decide)] at H; exact H
    clear H
    have H := H1
    clear H1
    by_cases c5 : 0 < (l0.length : Int)
    ·rw [if_pos c5] at H
     have c5b0 : decide (0 < (l0.length : Int)) = true := decide_eq_true c5
     have c5b1 : decide (0 < l0.length) = true := decide_eq_true (by omega)
     clear c5
     have H' := Aside0.mk H
     clear H
     have p635 : 0 ≤ (0 : Int) := (by omega)
     have q635 : 0 < (l0.length : Int) := of_decide_eq_true (by first | (with_reducible assumption) | assumption)
     obtain ⟨ad635, e635, hx635_0⟩ := Kd.at_int HR0.out 0 p635 q635
     cases e635
     have qi635 : (0 < l0.length) = True := eq_true (by omega)
     (try rw [show ((0 : Int)).toNat = 0 from rfl] at hx635_0)
     (try rw [Addr.add_zero'] at hx635_0)
     replace p635 := eq_true p635
     replace q635 := eq_true q635
     go_wp2
     go_loopg [4, 5] kj1 (fun kq v4 v5 w' => ∃ (x4_2 : Int) (x5_2 : Int), v4 = .int .i64 x4_2 ∧ v5 = .int .i64 x5_2 ∧ Aside0 (warderref02_Int.l0 kq l0 x4_2 x5_2 = some (r1, r2)) ∧ Aside0 (kq ≤ kj1) ∧ Drawn0 w w')
     case atStart => exact ⟨(wrap64 (IntKind.i8.wrap (rd l0 0))), (1), (by first | rfl | (simp; done) | (simp [*]; done)), (by first | rfl | (simp; done) | (simp [*]; done)), H', ⟨Nat.le_refl _⟩, by repeat (first | exact Drawn0.refl _ | apply Drawn0.step)⟩
     case round =>
      clear H'
      try clear c1
      try clear p2
      try clear c3
      try clear c3b0
      try clear c3b1
      try clear c4
      try clear c5
      try clear c5b0
      try clear c5b1
      try clear hx635_0
      try clear p2
      try clear p635
      try clear q635
      obtain ⟨x4_2, x5_2, rfl, rfl, HA, HK2, ⟨m2, rfl⟩⟩ := hrel
      cases gk with
      | zero => exact absurd HA.out (by simp [warderref02_Int.l0])
      | succ k2 =>
       have H := HA.out
       clear HA
       simp only [warderref02_Int.l0] at H
       by_cases c6 : x5_2 < (l0.length : Int)
       ·rw [if_pos c6] at H
        have c6b0 : decide (x5_2 < (l0.length : Int)) = true := decide_eq_true c6
        clear c6
        by_cases c7 : 0 ≤ x5_2
        ·rw [if_pos c7] at H
         have c7b0 : decide (0 ≤ x5_2) = true := decide_eq_true c7
         clear c7
         have H' := Aside0.mk H
         clear H
         have p636 : 0 ≤ (x5_2 : Int) := of_decide_eq_true (by first | (with_reducible assumption) | assumption)
         have q636 : x5_2 < (l0.length : Int) := of_decide_eq_true (by first | (with_reducible assumption) | assumption)
         obtain ⟨ad636, e636, hx636_0⟩ := Kd.at_int HR0.out x5_2 p636 q636
         obtain rfl : ad635 = ad636 := (by injection e636)
         replace p636 := eq_true p636
         replace q636 := eq_true q636
         go_wp2
         go_roundg k2
         case measure => have := HJ1.out; have := HK2.out; omega
         case rel => exact ⟨(Go.bits .or .i64 (wrap64 (x4_2 * 256)) (wrap64 (rd l0 x5_2))), (wrap64 (x5_2 + 1)), (by first | rfl | (simp; done) | (simp [*]; done)), (by first | rfl | (simp; done) | (simp [*]; done)), H', ⟨by have := HJ1.out; have := HK2.out; omega⟩, by repeat (first | exact Drawn0.refl _ | apply Drawn0.step)⟩
        ·rw [if_neg c7] at H
         exact absurd H (by simp)
       ·rw [if_neg c6] at H
        have c6b0 : decide (x5_2 < (l0.length : Int)) = false := decide_eq_false c6
        clear c6
        by_cases c8 : (l0.length : Int) > 1
        ·rw [if_pos c8] at H
         have c8b0 : decide (1 < (l0.length : Int)) = true := decide_eq_true c8
         have c8b1 : decide (1 < l0.length) = true := decide_eq_true (by omega)
         clear c8
         by_cases c9 : 0 < (l0.length : Int)
         ·rw [if_pos c9] at H
          have c9b0 : decide (0 < (l0.length : Int)) = true := decide_eq_true c9
          have c9b1 : decide (0 < l0.length) = true := decide_eq_true (by omega)
          clear c9
          by_cases c10 : (rd l0 0) = 0
          ·rw [if_pos c10] at H
           have c10b0 : ((rd l0 0) == 0) = true := beq_iff_eq.mpr c10
           have c10b1 : ((rd l0 0) != 0) = false := bne_eq_false_iff_eq.mpr c10
           clear c10
           by_cases c11 : 1 < (l0.length : Int)
           ·rw [if_pos c11] at H
            have c11b0 : decide (1 < (l0.length : Int)) = true := decide_eq_true c11
            have c11b1 : decide (1 < l0.length) = true := decide_eq_true (by omega)
            clear c11
            by_cases c12 : (rd l0 1) < 128
            ·rw [if_pos c12] at H
             have c12b0 : decide ((rd l0 1) < 128) = true := decide_eq_true c12
             clear c12
             simp only [Option.some.injEq, Prod.mk.injEq] at H
             obtain ⟨rfl, rfl⟩ := H
             have p637 : 0 ≤ (0 : Int) := (by omega)
             have q637 : 0 < (l0.length : Int) := of_decide_eq_true (by first | (with_reducible assumption) | assumption)
             obtain ⟨ad637, e637, hx637_0⟩ := Kd.at_int HR0.out 0 p637 q637
             obtain rfl : ad635 = ad637 := (by injection e637)
             have qi637 : (0 < l0.length) = True := eq_true (by omega)
             (try rw [show ((0 : Int)).toNat = 0 from rfl] at hx637_0)
             (try rw [Addr.add_zero'] at hx637_0)
             replace p637 := eq_true p637
             replace q637 := eq_true q637
             have p638 : 0 ≤ (1 : Int) := (by omega)
             have q638 : 1 < (l0.length : Int) := of_decide_eq_true (by first | (with_reducible assumption) | assumption)
             obtain ⟨ad638, e638, hx638_0⟩ := Kd.at_int HR0.out 1 p638 q638
             obtain rfl : ad635 = ad638 := (by injection e638)
             (try simp only [show (1 : Int).toNat = 1 from rfl, Nat.reduceMul, Nat.reduceEqDiff, Go.Addr.add, ↓reduceIte] at hx638_0)
             have qi638 : (1 < l0.length) = True := eq_true (by omega)
             (try rw [show ((1 : Int)).toNat = 1 from rfl] at hx638_0)
             replace p638 := eq_true p638
             replace q638 := eq_true q638
             go_wp2
             go_ret2
             exact ⟨by first | rfl | (simp; done) | (simp [*]; done), by repeat (first | exact Drawn0.refl _ | apply Drawn0.step)⟩
            ·rw [if_neg c12] at H
             have c12b0 : decide ((rd l0 1) < 128) = false := decide_eq_false c12
             clear c12
             by_cases c13 : (rd l0 0) = 255
             ·rw [if_pos c13] at H
              have c13b0 : ((rd l0 0) == 255) = true := beq_iff_eq.mpr c13
              have c13b1 : ((rd l0 0) != 255) = false := bne_eq_false_iff_eq.mpr c13
              clear c13
              by_cases c14 : (rd l0 1) ≥ 128
              ·rw [if_pos c14] at H
               have c14b0 : decide (128 ≤ (rd l0 1)) = true := decide_eq_true c14
               clear c14
               simp only [Option.some.injEq, Prod.mk.injEq] at H
               obtain ⟨rfl, rfl⟩ := H
               have p637 : 0 ≤ (0 : Int) := (by omega)
               have q637 : 0 < (l0.length : Int) := of_decide_eq_true (by first | (with_reducible assumption) | assumption)
               obtain ⟨ad637, e637, hx637_0⟩ := Kd.at_int HR0.out 0 p637 q637
               obtain rfl : ad635 = ad637 := (by injection e637)
               have qi637 : (0 < l0.length) = True := eq_true (by omega)
               (try rw [show ((0 : Int)).toNat = 0 from rfl] at hx637_0)
               (try rw [Addr.add_zero'] at hx637_0)
               replace p637 := eq_true p637
               replace q637 := eq_true q637
               have p638 : 0 ≤ (1 : Int) := (by omega)
               have q638 : 1 < (l0.length : Int) := of_decide_eq_true (by first | (with_reducible assumption) | assumption)
               obtain ⟨ad638, e638, hx638_0⟩ := Kd.at_int HR0.out 1 p638 q638
               obtain rfl : ad635 = ad638 := (by injection e638)
               (try simp only [show (1 : Int).toNat = 1 from rfl, Nat.reduceMul, Nat.reduceEqDiff, Go.Addr.add, ↓reduceIte] at hx638_0)
               have qi638 : (1 < l0.length) = True := eq_true (by omega)
               (try rw [show ((1 : Int)).toNat = 1 from rfl] at hx638_0)
               replace p638 := eq_true p638
               replace q638 := eq_true q638
               have p639 : 0 ≤ (0 : Int) := (by omega)
               have q639 : 0 < (l0.length : Int) := of_decide_eq_true (by first | (with_reducible assumption) | assumption)
               obtain ⟨ad639, e639, hx639_0⟩ := Kd.at_int HR0.out 0 p639 q639
               obtain rfl : ad635 = ad639 := (by injection e639)
               have qi639 : (0 < l0.length) = True := eq_true (by omega)
               (try rw [show ((0 : Int)).toNat = 0 from rfl] at hx639_0)
               (try rw [Addr.add_zero'] at hx639_0)
               replace p639 := eq_true p639
               replace q639 := eq_true q639
               have p640 : 0 ≤ (1 : Int) := (by omega)
               have q640 : 1 < (l0.length : Int) := of_decide_eq_true (by first | (with_reducible assumption) | assumption)
               obtain ⟨ad640, e640, hx640_0⟩ := Kd.at_int HR0.out 1 p640 q640
               obtain rfl : ad635 = ad640 := (by injection e640)
               (try simp only [show (1 : Int).toNat = 1 from rfl, Nat.reduceMul, Nat.reduceEqDiff, Go.Addr.add, ↓reduceIte] at hx640_0)
               have qi640 : (1 < l0.length) = True := eq_true (by omega)
               (try rw [show ((1 : Int)).toNat = 1 from rfl] at hx640_0)
               replace p640 := eq_true p640
               replace q640 := eq_true q640
               go_wp2
               go_ret2
               exact ⟨by first | rfl | (simp; done) | (simp [*]; done), by repeat (first | exact Drawn0.refl _ | apply Drawn0.step)⟩
              ·rw [if_neg c14] at H
               have c14b0 : decide (128 ≤ (rd l0 1)) = false := decide_eq_false c14
               clear c14
               simp only [Option.some.injEq, Prod.mk.injEq] at H
               obtain ⟨rfl, rfl⟩ := H
               have p637 : 0 ≤ (0 : Int) := (by omega)
               have q637 : 0 < (l0.length : Int) := of_decide_eq_true (by first | (with_reducible assumption) | assumption)
               obtain ⟨ad637, e637, hx637_0⟩ := Kd.at_int HR0.out 0 p637 q637
               obtain rfl : ad635 = ad637 := (by injection e637)
               have qi637 : (0 < l0.length) = True := eq_true (by omega)
               (try rw [show ((0 : Int)).toNat = 0 from rfl] at hx637_0)
               (try rw [Addr.add_zero'] at hx637_0)
               replace p637 := eq_true p637
               replace q637 := eq_true q637
               have p638 : 0 ≤ (1 : Int) := (by omega)
               have q638 : 1 < (l0.length : Int) := of_decide_eq_true (by first | (with_reducible assumption) | assumption)
               obtain ⟨ad638, e638, hx638_0⟩ := Kd.at_int HR0.out 1 p638 q638
               obtain rfl : ad635 = ad638 := (by injection e638)
               (try simp only [show (1 : Int).toNat = 1 from rfl, Nat.reduceMul, Nat.reduceEqDiff, Go.Addr.add, ↓reduceIte] at hx638_0)
               have qi638 : (1 < l0.length) = True := eq_true (by omega)
               (try rw [show ((1 : Int)).toNat = 1 from rfl] at hx638_0)
               replace p638 := eq_true p638
               replace q638 := eq_true q638
               have p639 : 0 ≤ (0 : Int) := (by omega)
               have q639 : 0 < (l0.length : Int) := of_decide_eq_true (by first | (with_reducible assumption) | assumption)
               obtain ⟨ad639, e639, hx639_0⟩ := Kd.at_int HR0.out 0 p639 q639
               obtain rfl : ad635 = ad639 := (by injection e639)
               have qi639 : (0 < l0.length) = True := eq_true (by omega)
               (try rw [show ((0 : Int)).toNat = 0 from rfl] at hx639_0)
               (try rw [Addr.add_zero'] at hx639_0)
               replace p639 := eq_true p639
               replace q639 := eq_true q639
               have p640 : 0 ≤ (1 : Int) := (by omega)
               have q640 : 1 < (l0.length : Int) := of_decide_eq_true (by first | (with_reducible assumption) | assumption)
               obtain ⟨ad640, e640, hx640_0⟩ := Kd.at_int HR0.out 1 p640 q640
               obtain rfl : ad635 = ad640 := (by injection e640)
               (try simp only [show (1 : Int).toNat = 1 from rfl, Nat.reduceMul, Nat.reduceEqDiff, Go.Addr.add, ↓reduceIte] at hx640_0)
               have qi640 : (1 < l0.length) = True := eq_true (by omega)
               (try rw [show ((1 : Int)).toNat = 1 from rfl] at hx640_0)
               replace p640 := eq_true p640
               replace q640 := eq_true q640
               go_wp2
               go_ret2
               exact ⟨by first | rfl | (simp; done) | (simp [*]; done), by repeat (first | exact Drawn0.refl _ | apply Drawn0.step)⟩
             ·rw [if_neg c13] at H
              have c13b0 : ((rd l0 0) == 255) = false := beq_eq_false_iff_ne.mpr c13
              have c13b1 : ((rd l0 0) != 255) = true := bne_iff_ne.mpr c13
              simp only [Option.some.injEq, Prod.mk.injEq] at H
              obtain ⟨rfl, rfl⟩ := H
              have p637 : 0 ≤ (0 : Int) := (by omega)
              have q637 : 0 < (l0.length : Int) := of_decide_eq_true (by first | (with_reducible assumption) | assumption)
              obtain ⟨ad637, e637, hx637_0⟩ := Kd.at_int HR0.out 0 p637 q637
              obtain rfl : ad635 = ad637 := (by injection e637)
              have qi637 : (0 < l0.length) = True := eq_true (by omega)
              (try rw [show ((0 : Int)).toNat = 0 from rfl] at hx637_0)
              (try rw [Addr.add_zero'] at hx637_0)
              replace p637 := eq_true p637
              replace q637 := eq_true q637
              have p638 : 0 ≤ (1 : Int) := (by omega)
              have q638 : 1 < (l0.length : Int) := of_decide_eq_true (by first | (with_reducible assumption) | assumption)
              obtain ⟨ad638, e638, hx638_0⟩ := Kd.at_int HR0.out 1 p638 q638
              obtain rfl : ad635 = ad638 := (by injection e638)
              (try simp only [show (1 : Int).toNat = 1 from rfl, Nat.reduceMul, Nat.reduceEqDiff, Go.Addr.add, ↓reduceIte] at hx638_0)
              have qi638 : (1 < l0.length) = True := eq_true (by omega)
              (try rw [show ((1 : Int)).toNat = 1 from rfl] at hx638_0)
              replace p638 := eq_true p638
              replace q638 := eq_true q638
              have p639 : 0 ≤ (0 : Int) := (by omega)
              have q639 : 0 < (l0.length : Int) := of_decide_eq_true (by first | (with_reducible assumption) | assumption)
              obtain ⟨ad639, e639, hx639_0⟩ := Kd.at_int HR0.out 0 p639 q639
              obtain rfl : ad635 = ad639 := (by injection e639)
              have qi639 : (0 < l0.length) = True := eq_true (by omega)
              (try rw [show ((0 : Int)).toNat = 0 from rfl] at hx639_0)
              (try rw [Addr.add_zero'] at hx639_0)
              replace p639 := eq_true p639
              replace q639 := eq_true q639
              go_wp2
              go_ret2
              exact ⟨by first | rfl | (simp; done) | (simp [*]; done), by repeat (first | exact Drawn0.refl _ | apply Drawn0.step)⟩
           ·rw [if_neg c11] at H
            exact absurd H (by simp)
          ·rw [if_neg c10] at H
           have c10b0 : ((rd l0 0) == 0) = false := beq_eq_false_iff_ne.mpr c10
           have c10b1 : ((rd l0 0) != 0) = true := bne_iff_ne.mpr c10
           by_cases c15 : (rd l0 0) = 255
           ·rw [if_pos c15] at H
            have c15b0 : ((rd l0 0) == 255) = true := beq_iff_eq.mpr c15
            have c15b1 : ((rd l0 0) != 255) = false := bne_eq_false_iff_eq.mpr c15
            clear c15
            by_cases c16 : 1 < (l0.length : Int)
            ·rw [if_pos c16] at H
             have c16b0 : decide (1 < (l0.length : Int)) = true := decide_eq_true c16
             have c16b1 : decide (1 < l0.length) = true := decide_eq_true (by omega)
             clear c16
             by_cases c17 : (rd l0 1) ≥ 128
             ·rw [if_pos c17] at H
              have c17b0 : decide (128 ≤ (rd l0 1)) = true := decide_eq_true c17
              clear c17
              simp only [Option.some.injEq, Prod.mk.injEq] at H
              obtain ⟨rfl, rfl⟩ := H
              have p637 : 0 ≤ (0 : Int) := (by omega)
              have q637 : 0 < (l0.length : Int) := of_decide_eq_true (by first | (with_reducible assumption) | assumption)
              obtain ⟨ad637, e637, hx637_0⟩ := Kd.at_int HR0.out 0 p637 q637
              obtain rfl : ad635 = ad637 := (by injection e637)
              have qi637 : (0 < l0.length) = True := eq_true (by omega)
              (try rw [show ((0 : Int)).toNat = 0 from rfl] at hx637_0)
              (try rw [Addr.add_zero'] at hx637_0)
              replace p637 := eq_true p637
              replace q637 := eq_true q637
              have p641 : 0 ≤ (0 : Int) := (by omega)
              have q641 : 0 < (l0.length : Int) := of_decide_eq_true (by first | (with_reducible assumption) | assumption)
              obtain ⟨ad641, e641, hx641_0⟩ := Kd.at_int HR0.out 0 p641 q641
              obtain rfl : ad635 = ad641 := (by injection e641)
              have qi641 : (0 < l0.length) = True := eq_true (by omega)
              (try rw [show ((0 : Int)).toNat = 0 from rfl] at hx641_0)
              (try rw [Addr.add_zero'] at hx641_0)
              replace p641 := eq_true p641
              replace q641 := eq_true q641
              have p642 : 0 ≤ (1 : Int) := (by omega)
              have q642 : 1 < (l0.length : Int) := of_decide_eq_true (by first | (with_reducible assumption) | assumption)
              obtain ⟨ad642, e642, hx642_0⟩ := Kd.at_int HR0.out 1 p642 q642
              obtain rfl : ad635 = ad642 := (by injection e642)
              (try simp only [show (1 : Int).toNat = 1 from rfl, Nat.reduceMul, Nat.reduceEqDiff, Go.Addr.add, ↓reduceIte] at hx642_0)
              have qi642 : (1 < l0.length) = True := eq_true (by omega)
              (try rw [show ((1 : Int)).toNat = 1 from rfl] at hx642_0)
              replace p642 := eq_true p642
              replace q642 := eq_true q642
              go_wp2
              go_ret2
              exact ⟨by first | rfl | (simp; done) | (simp [*]; done), by repeat (first | exact Drawn0.refl _ | apply Drawn0.step)⟩
             ·rw [if_neg c17] at H
              have c17b0 : decide (128 ≤ (rd l0 1)) = false := decide_eq_false c17
              clear c17
              simp only [Option.some.injEq, Prod.mk.injEq] at H
              obtain ⟨rfl, rfl⟩ := H
              have p637 : 0 ≤ (0 : Int) := (by omega)
              have q637 : 0 < (l0.length : Int) := of_decide_eq_true (by first | (with_reducible assumption) | assumption)
              obtain ⟨ad637, e637, hx637_0⟩ := Kd.at_int HR0.out 0 p637 q637
              obtain rfl : ad635 = ad637 := (by injection e637)
              have qi637 : (0 < l0.length) = True := eq_true (by omega)
              (try rw [show ((0 : Int)).toNat = 0 from rfl] at hx637_0)
              (try rw [Addr.add_zero'] at hx637_0)
              replace p637 := eq_true p637
              replace q637 := eq_true q637
              have p641 : 0 ≤ (0 : Int) := (by omega)
              have q641 : 0 < (l0.length : Int) := of_decide_eq_true (by first | (with_reducible assumption) | assumption)
              obtain ⟨ad641, e641, hx641_0⟩ := Kd.at_int HR0.out 0 p641 q641
              obtain rfl : ad635 = ad641 := (by injection e641)
              have qi641 : (0 < l0.length) = True := eq_true (by omega)
              (try rw [show ((0 : Int)).toNat = 0 from rfl] at hx641_0)
              (try rw [Addr.add_zero'] at hx641_0)
              replace p641 := eq_true p641
              replace q641 := eq_true q641
              have p642 : 0 ≤ (1 : Int) := (by omega)
              have q642 : 1 < (l0.length : Int) := of_decide_eq_true (by first | (with_reducible assumption) | assumption)
              obtain ⟨ad642, e642, hx642_0⟩ := Kd.at_int HR0.out 1 p642 q642
              obtain rfl : ad635 = ad642 := (by injection e642)
              (try simp only [show (1 : Int).toNat = 1 from rfl, Nat.reduceMul, Nat.reduceEqDiff, Go.Addr.add, ↓reduceIte] at hx642_0)
              have qi642 : (1 < l0.length) = True := eq_true (by omega)
              (try rw [show ((1 : Int)).toNat = 1 from rfl] at hx642_0)
              replace p642 := eq_true p642
              replace q642 := eq_true q642
              go_wp2
              go_ret2
              exact ⟨by first | rfl | (simp; done) | (simp [*]; done), by repeat (first | exact Drawn0.refl _ | apply Drawn0.step)⟩
            ·rw [if_neg c16] at H
             exact absurd H (by simp)
           ·rw [if_neg c15] at H
            have c15b0 : ((rd l0 0) == 255) = false := beq_eq_false_iff_ne.mpr c15
            have c15b1 : ((rd l0 0) != 255) = true := bne_iff_ne.mpr c15
            simp only [Option.some.injEq, Prod.mk.injEq] at H
            obtain ⟨rfl, rfl⟩ := H
            have p637 : 0 ≤ (0 : Int) := (by omega)
            have q637 : 0 < (l0.length : Int) := of_decide_eq_true (by first | (with_reducible assumption) | assumption)
            obtain ⟨ad637, e637, hx637_0⟩ := Kd.at_int HR0.out 0 p637 q637
            obtain rfl : ad635 = ad637 := (by injection e637)
            have qi637 : (0 < l0.length) = True := eq_true (by omega)
            (try rw [show ((0 : Int)).toNat = 0 from rfl] at hx637_0)
            (try rw [Addr.add_zero'] at hx637_0)
            replace p637 := eq_true p637
            replace q637 := eq_true q637
            have p641 : 0 ≤ (0 : Int) := (by omega)
            have q641 : 0 < (l0.length : Int) := of_decide_eq_true (by first | (with_reducible assumption) | assumption)
            obtain ⟨ad641, e641, hx641_0⟩ := Kd.at_int HR0.out 0 p641 q641
            obtain rfl : ad635 = ad641 := (by injection e641)
            have qi641 : (0 < l0.length) = True := eq_true (by omega)
            (try rw [show ((0 : Int)).toNat = 0 from rfl] at hx641_0)
            (try rw [Addr.add_zero'] at hx641_0)
            replace p641 := eq_true p641
            replace q641 := eq_true q641
            go_wp2
            go_ret2
            exact ⟨by first | rfl | (simp; done) | (simp [*]; done), by repeat (first | exact Drawn0.refl _ | apply Drawn0.step)⟩
         ·rw [if_neg c9] at H
          exact absurd H (by simp)
        ·rw [if_neg c8] at H
         have c8b0 : decide (1 < (l0.length : Int)) = false := decide_eq_false c8
         have c8b1 : decide (1 < l0.length) = false := decide_eq_false (by omega)
         clear c8
         simp only [Option.some.injEq, Prod.mk.injEq] at H
         obtain ⟨rfl, rfl⟩ := H
         go_wp2
         go_ret2
         exact ⟨by first | rfl | (simp; done) | (simp [*]; done), by repeat (first | exact Drawn0.refl _ | apply Drawn0.step)⟩
    ·rw [if_neg c5] at H
     exact absurd H (by simp)
noncomputable def warderref03_number.f (l0 : List Int) (a1 : Int) : Option (Int) := if 0 ≤ a1 then (if a1 < (l0.length : Int) then (if (rd l0 a1) < 48 then (some (-1)) else (if (rd l0 a1) > 57 then (some (-1)) else (if 0 ≤ (wrap64 (a1 + 1)) then (if (wrap64 (a1 + 1)) < (l0.length : Int) then (if (rd l0 (wrap64 (a1 + 1))) < 48 then (some (-1)) else (if (rd l0 (wrap64 (a1 + 1))) > 57 then (some (-1)) else (some ((10 * (((rd l0 a1) - 48) % 256)) + (((rd l0 (wrap64 (a1 + 1))) - 48) % 256))))) else (none)) else (none)))) else (none)) else (none)
set_option maxHeartbeats 8000000 in
set_option maxRecDepth 100000 in
theorem warderref03_number.calls (A0 : Option Addr) (c0 : Nat) (l0 : List Int) (a1 : Int) (r : Int) (w : World) (hr0 : Kd.C (Kd.int .u8) w A0 l0.length l0) (hc0 : l0.length ≤ c0) (h : warderref03_number.f l0 a1 = some r) :
  Calls Tryz.prog 113 #[.slice A0 l0.length c0, .int .i64 a1] w fun e w' => e = .returned (.int .i64 r) ∧ Drawn0 w w' := by
 have HR0 := Aside0.mk hr0
 have HC0 := Aside0.mk hc0
 clear hr0 hc0
 have H : (if 0 ≤ a1 then (if a1 < (l0.length : Int) then (if (rd l0 a1) < 48 then (some (-1)) else (if (rd l0 a1) > 57 then (some (-1)) else (if 0 ≤ (wrap64 (a1 + 1)) then (if (wrap64 (a1 + 1)) < (l0.length : Int) then (if (rd l0 (wrap64 (a1 + 1))) < 48 then (some (-1)) else (if (rd l0 (wrap64 (a1 + 1))) > 57 then (some (-1)) else (some ((10 * (((rd l0 a1) - 48) % 256)) + (((rd l0 (wrap64 (a1 + 1))) - 48) % 256))))) else (none)) else (none)))) else (none)) else (none)) = some r := h
 clear h
 by_cases c3 : 0 ≤ a1
 ·rw [if_pos c3] at H
  have c3b0 : decide (0 ≤ a1) = true := decide_eq_true c3
  clear c3
  by_cases c4 : a1 < (l0.length : Int)
  ·rw [if_pos c4] at H
   have c4b0 : decide (a1 < (l0.length : Int)) = true := decide_eq_true c4
   clear c4
   by_cases c5 : (rd l0 a1) < 48
   ·rw [if_pos c5] at H
    have c5b0 : decide ((rd l0 a1) < 48) = true := decide_eq_true c5
    clear c5
    obtain rfl := Option.some.inj H
    have p643 : 0 ≤ (a1 : Int) := of_decide_eq_true (by first | (with_reducible assumption) | assumption)
    have q643 : a1 < (l0.length : Int) := of_decide_eq_true (by first | (with_reducible assumption) | assumption)
    obtain ⟨ad643, e643, hx643_0⟩ := Kd.at_int HR0.out a1 p643 q643
    cases e643
    replace p643 := eq_true p643
    replace q643 := eq_true q643
    go_enter Tryz.func113, Tryz.ntmps113
    go_wp2
    repeat (go_quiet (fail); try go_wp2)
    go_ret
    exact ⟨by first | rfl | (simp; done) | (simp [*]; done), by repeat (first | exact Drawn0.refl _ | apply Drawn0.step)⟩
   ·rw [if_neg c5] at H
    have c5b0 : decide ((rd l0 a1) < 48) = false := decide_eq_false c5
    clear c5
    by_cases c6 : (rd l0 a1) > 57
    ·rw [if_pos c6] at H
     have c6b0 : decide (57 < (rd l0 a1)) = true := decide_eq_true c6
     clear c6
     obtain rfl := Option.some.inj H
     have p643 : 0 ≤ (a1 : Int) := of_decide_eq_true (by first | (with_reducible assumption) | assumption)
     have q643 : a1 < (l0.length : Int) := of_decide_eq_true (by first | (with_reducible assumption) | assumption)
     obtain ⟨ad643, e643, hx643_0⟩ := Kd.at_int HR0.out a1 p643 q643
     cases e643
     replace p643 := eq_true p643
     replace q643 := eq_true q643
     have p644 : 0 ≤ (a1 : Int) := of_decide_eq_true (by first | (with_reducible assumption) | assumption)
     have q644 : a1 < (l0.length : Int) := of_decide_eq_true (by first | (with_reducible assumption) | assumption)
     obtain ⟨ad644, e644, hx644_0⟩ := Kd.at_int HR0.out a1 p644 q644
     obtain rfl : ad643 = ad644 := (by injection e644)
     replace p644 := eq_true p644
     replace q644 := eq_true q644
     go_enter Tryz.func113, Tryz.ntmps113
     go_wp2
     repeat (go_quiet (fail); try go_wp2)
     go_ret
     exact ⟨by first | rfl | (simp; done) | (simp [*]; done), by repeat (first | exact Drawn0.refl _ | apply Drawn0.step)⟩
    ·rw [if_neg c6] at H
     have c6b0 : decide (57 < (rd l0 a1)) = false := decide_eq_false c6
     clear c6
     obtain ⟨ji7, hji7⟩ : ∃ j_ : Int, (wrap64 (a1 + 1)) = j_ := ⟨_, rfl⟩
     replace H : (if 0 ≤ (ji7) then (if (ji7) < (l0.length : Int) then (if (rd l0 (ji7)) < 48 then (some (-1)) else (if (rd l0 (ji7)) > 57 then (some (-1)) else (some ((10 * (((rd l0 a1) - 48) % 256)) + (((rd l0 (ji7)) - 48) % 256))))) else (none)) else (none)) = some r := by first | (rw [hji7] at H; exact H) | (simp only [hji7] at H ⊢; exact H)
     have hji7w : (IntKind.i64.wrap (a1 + 1)) = ji7 := (i64_w _).trans hji7
     by_cases c8 : 0 ≤ (ji7)
     ·rw [if_pos c8] at H
      have c8b0 : decide (0 ≤ (ji7)) = true := decide_eq_true c8
      clear c8
      by_cases c9 : (ji7) < (l0.length : Int)
      ·rw [if_pos c9] at H
       have c9b0 : decide ((ji7) < (l0.length : Int)) = true := decide_eq_true c9
       clear c9
       by_cases c10 : (rd l0 (ji7)) < 48
       ·rw [if_pos c10] at H
        have c10b0 : decide ((rd l0 (ji7)) < 48) = true := decide_eq_true c10
        clear c10
        obtain rfl := Option.some.inj H
        have p643 : 0 ≤ (a1 : Int) := of_decide_eq_true (by first | (with_reducible assumption) | assumption)
        have q643 : a1 < (l0.length : Int) := of_decide_eq_true (by first | (with_reducible assumption) | assumption)
        obtain ⟨ad643, e643, hx643_0⟩ := Kd.at_int HR0.out a1 p643 q643
        cases e643
        replace p643 := eq_true p643
        replace q643 := eq_true q643
        have p644 : 0 ≤ (a1 : Int) := of_decide_eq_true (by first | (with_reducible assumption) | assumption)
        have q644 : a1 < (l0.length : Int) := of_decide_eq_true (by first | (with_reducible assumption) | assumption)
        obtain ⟨ad644, e644, hx644_0⟩ := Kd.at_int HR0.out a1 p644 q644
        obtain rfl : ad643 = ad644 := (by injection e644)
        replace p644 := eq_true p644
        replace q644 := eq_true q644
        have p645 : 0 ≤ ((ji7) : Int) := of_decide_eq_true (by first | (with_reducible assumption) | assumption)
        have q645 : (ji7) < (l0.length : Int) := of_decide_eq_true (by first | (with_reducible assumption) | assumption)
        obtain ⟨ad645, e645, hx645_0⟩ := Kd.at_int HR0.out (ji7) p645 q645
        obtain rfl : ad643 = ad645 := (by injection e645)
        replace p645 := eq_true p645
        replace q645 := eq_true q645
        go_enter Tryz.func113, Tryz.ntmps113
        go_wp2
        repeat (go_quiet (fail); try go_wp2)
        go_ret
        exact ⟨by first | rfl | (simp; done) | (simp only [← hji7] <;> (first | rfl | simp)) | (simp [*]; done), by repeat (first | exact Drawn0.refl _ | apply Drawn0.step)⟩
       ·rw [if_neg c10] at H
        have c10b0 : decide ((rd l0 (ji7)) < 48) = false := decide_eq_false c10
        clear c10
        by_cases c11 : (rd l0 (ji7)) > 57
        ·rw [if_pos c11] at H
         have c11b0 : decide (57 < (rd l0 (ji7))) = true := decide_eq_true c11
         clear c11
         obtain rfl := Option.some.inj H
         have p643 : 0 ≤ (a1 : Int) := of_decide_eq_true (by first | (with_reducible assumption) | assumption)
         have q643 : a1 < (l0.length : Int) := of_decide_eq_true (by first | (with_reducible assumption) | assumption)
         obtain ⟨ad643, e643, hx643_0⟩ := Kd.at_int HR0.out a1 p643 q643
         cases e643
         replace p643 := eq_true p643
         replace q643 := eq_true q643
         have p644 : 0 ≤ (a1 : Int) := of_decide_eq_true (by first | (with_reducible assumption) | assumption)
         have q644 : a1 < (l0.length : Int) := of_decide_eq_true (by first | (with_reducible assumption) | assumption)
         obtain ⟨ad644, e644, hx644_0⟩ := Kd.at_int HR0.out a1 p644 q644
         obtain rfl : ad643 = ad644 := (by injection e644)
         replace p644 := eq_true p644
         replace q644 := eq_true q644
         have p645 : 0 ≤ ((ji7) : Int) := of_decide_eq_true (by first | (with_reducible assumption) | assumption)
         have q645 : (ji7) < (l0.length : Int) := of_decide_eq_true (by first | (with_reducible assumption) | assumption)
         obtain ⟨ad645, e645, hx645_0⟩ := Kd.at_int HR0.out (ji7) p645 q645
         obtain rfl : ad643 = ad645 := (by injection e645)
         replace p645 := eq_true p645
         replace q645 := eq_true q645
         have p646 : 0 ≤ ((ji7) : Int) := of_decide_eq_true (by first | (with_reducible assumption) | assumption)
         have q646 : (ji7) < (l0.length : Int) := of_decide_eq_true (by first | (with_reducible assumption) | assumption)
         obtain ⟨ad646, e646, hx646_0⟩ := Kd.at_int HR0.out (ji7) p646 q646
         obtain rfl : ad643 = ad646 := (by injection e646)
         replace p646 := eq_true p646
         replace q646 := eq_true q646
         go_enter Tryz.func113, Tryz.ntmps113
         go_wp2
         repeat (go_quiet (fail); try go_wp2)
         go_ret
         exact ⟨by first | rfl | (simp; done) | (simp only [← hji7] <;> (first | rfl | simp)) | (simp [*]; done), by repeat (first | exact Drawn0.refl _ | apply Drawn0.step)⟩
        ·rw [if_neg c11] at H
         have c11b0 : decide (57 < (rd l0 (ji7))) = false := decide_eq_false c11
         clear c11
         obtain rfl := Option.some.inj H
         have p643 : 0 ≤ (a1 : Int) := of_decide_eq_true (by first | (with_reducible assumption) | assumption)
         have q643 : a1 < (l0.length : Int) := of_decide_eq_true (by first | (with_reducible assumption) | assumption)
         obtain ⟨ad643, e643, hx643_0⟩ := Kd.at_int HR0.out a1 p643 q643
         cases e643
         replace p643 := eq_true p643
         replace q643 := eq_true q643
         have p644 : 0 ≤ (a1 : Int) := of_decide_eq_true (by first | (with_reducible assumption) | assumption)
         have q644 : a1 < (l0.length : Int) := of_decide_eq_true (by first | (with_reducible assumption) | assumption)
         obtain ⟨ad644, e644, hx644_0⟩ := Kd.at_int HR0.out a1 p644 q644
         obtain rfl : ad643 = ad644 := (by injection e644)
         replace p644 := eq_true p644
         replace q644 := eq_true q644
         have p645 : 0 ≤ ((ji7) : Int) := of_decide_eq_true (by first | (with_reducible assumption) | assumption)
         have q645 : (ji7) < (l0.length : Int) := of_decide_eq_true (by first | (with_reducible assumption) | assumption)
         obtain ⟨ad645, e645, hx645_0⟩ := Kd.at_int HR0.out (ji7) p645 q645
         obtain rfl : ad643 = ad645 := (by injection e645)
         replace p645 := eq_true p645
         replace q645 := eq_true q645
         have p646 : 0 ≤ ((ji7) : Int) := of_decide_eq_true (by first | (with_reducible assumption) | assumption)
         have q646 : (ji7) < (l0.length : Int) := of_decide_eq_true (by first | (with_reducible assumption) | assumption)
         obtain ⟨ad646, e646, hx646_0⟩ := Kd.at_int HR0.out (ji7) p646 q646
         obtain rfl : ad643 = ad646 := (by injection e646)
         replace p646 := eq_true p646
         replace q646 := eq_true q646
         have p647 : 0 ≤ (a1 : Int) := of_decide_eq_true (by first | (with_reducible assumption) | assumption)
         have q647 : a1 < (l0.length : Int) := of_decide_eq_true (by first | (with_reducible assumption) | assumption)
         obtain ⟨ad647, e647, hx647_0⟩ := Kd.at_int HR0.out a1 p647 q647
         obtain rfl : ad643 = ad647 := (by injection e647)
         replace p647 := eq_true p647
         replace q647 := eq_true q647
         have p648 : 0 ≤ ((ji7) : Int) := of_decide_eq_true (by first | (with_reducible assumption) | assumption)
         have q648 : (ji7) < (l0.length : Int) := of_decide_eq_true (by first | (with_reducible assumption) | assumption)
         obtain ⟨ad648, e648, hx648_0⟩ := Kd.at_int HR0.out (ji7) p648 q648
         obtain rfl : ad643 = ad648 := (by injection e648)
         replace p648 := eq_true p648
         replace q648 := eq_true q648
         go_enter Tryz.func113, Tryz.ntmps113
         go_wp2
         repeat (go_quiet (fail); try go_wp2)
         go_ret
         exact ⟨by first | rfl | (simp; done) | (simp only [← hji7] <;> (first | rfl | simp)) | (simp [*]; done), by repeat (first | exact Drawn0.refl _ | apply Drawn0.step)⟩
      ·rw [if_neg c9] at H
       exact absurd H (by simp)
     ·rw [if_neg c8] at H
      exact absurd H (by simp)
  ·rw [if_neg c4] at H
   exact absurd H (by simp)
 ·rw [if_neg c3] at H
  exact absurd H (by simp)
end Go.Proofs.YtncanijjnhkgbaaGreatDoor.PMsgsPut
