/- A part of the proof of the law MsgsUnlike, put together by a program of this seat's prover (wip/pack.py): its own texts. No condition. -/
import Derived.Test.YtncanijjnhkgbaaDoorA2
import Derived.Test.YtncanijjnhkgbaaDoorA3
import Derived.Test.YtncanijjnhkgbaaDoorA4
import Derived.Test.YtncanijjnhkgbaaDoorRows
import Derived.WalkKit
import Derived.ProofKit
import Derived.OpenShut
import Derived.Deep.Slices
import Derived.Deep.Strs
import Derived.Carry
import Derived.Deep.DeepHandedRow
import Derived.Lib.LaidTab
import Derived.Lib.Bytes
set_option linter.unusedVariables false
set_option linter.unusedSimpArgs false
namespace Go.Proofs.YtncanijjnhkgbaaDoor.PMsgsUnlike
open Go.RowKit Go.Proofs.YtncanijjnhkgbaaDoorW.PrintWords Go.Proofs.YtncanijjnhkgbaaDoorW.PrintLast Go.Proofs.YtncanijjnhkgbaaDoorW.PrintMore
attribute [local go_sem] max2_int min2_int max_two min_two max_three min_three max_four min_four
set_option linter.unusedVariables false
set_option linter.unusedSimpArgs false
noncomputable def msgs_Put.l0 : Nat → List (S45) → List (S37) → Int → Int → Int → List Int → Option (List Int × Int)
 | 0, _, _, _, _, _, _ => none
 | k + 1, x7, x23, x24, x25, x300000, x300001 => if x25 < x24 then (if 0 ≤ x25 then (if x25 < (x23.length : Int) then (if x25 < (x300001.length : Int) then ((msgs_state.f (rd x300001 x25) ((rd_T37 x23 x25).f0) ((rd_T37 x23 x25).f1) ((rd_T37 x23 x25).f2.f0) ((rd_T37 x23 x25).f2.f1) ((rd_T37 x23 x25).f3.f0.f0) ((rd_T37 x23 x25).f3.f0.f1) ((rd_T37 x23 x25).f3.f1)).bind fun bt303 => (if bt303.2.2.2 = true then (if x7.length < 2513169434916 then (msgs_Put.l0 k (x7 ++ [(⟨bt303.1, bt303.2.1, bt303.2.2.1⟩ : S45)]) x23 x24 (wrap64 (x25 + 1)) x300000 x300001) else (none)) else (some (([] : List Int), 181)))) else (none)) else (none)) else (none)) else ((nodes_Print.f x300000 ([] : List Int) (([(⟨48, ([] : List Int), x7⟩ : S45)] : List (S45)))).bind fun bt318 => (some (bt318.1, bt318.2)))
noncomputable def msgs_Put.f (k : Nat) (a0 : Int) (l1 : List (S37)) : Option (List Int × Int) := (msgs_shapeOf.f a0).bind fun bt295 => (if bt295.1 = 0 then (some (([] : List Int), 1)) else (if (l1.length : Int) = (bt295.2.length : Int) then (msgs_Put.l0 k ([] : List (S45)) l1 (l1.length : Int) 0 bt295.1 bt295.2) else (some (([] : List Int), 181))))
theorem msgs_Put.mono_l : ∀ k, (∀ y0 y1 y2 y3 y4 y5, LeO (msgs_Put.l0 k y0 y1 y2 y3 y4 y5) (msgs_Put.l0 (k + 1) y0 y1 y2 y3 y4 y5))
 | 0 => fun _ _ _ _ _ _ r h => by simp [msgs_Put.l0] at h
 | k + 1 => by
  have ih0 := msgs_Put.mono_l k
  ·intro y0 y1 y2 y3 y4 y5
   unfold msgs_Put.l0
   repeat' first
   | (with_reducible exact ih0 _ _ _ _ _ _)
   | (with_reducible exact LeO.refl _)
   | (with_reducible exact LeO.none _)
   | (with_reducible refine LeO.ite ?_ ?_)
   | (with_reducible refine LeO.bind ?_ (fun _ => ?_))
   | exact ih0 _ _ _ _ _ _
   | exact LeO.none _
   | refine LeO.ite ?_ ?_
   | refine LeO.bind ?_ (fun _ => ?_)
theorem msgs_Put.mono : ∀ a0 a1 k, LeO (msgs_Put.f k a0 a1) (msgs_Put.f (k + 1) a0 a1) := by
 intro a0 a1 k
 have ih0 := msgs_Put.mono_l k
 unfold msgs_Put.f
 repeat' first
   | (with_reducible exact ih0 _ _ _ _ _ _)
   | (with_reducible exact LeO.refl _)
   | (with_reducible exact LeO.none _)
   | (with_reducible refine LeO.ite ?_ ?_)
   | (with_reducible refine LeO.bind ?_ (fun _ => ?_))
   | exact ih0 _ _ _ _ _ _
   | exact LeO.none _
   | refine LeO.ite ?_ ?_
   | refine LeO.bind ?_ (fun _ => ?_)
def msgs_Put.T10 : Bool × List (List Nat × List Nat) := (true, [([], []), ([0], [0]), ([], []), ([1, 2], [1, 2]), ([3], [3]), ([], []), ([4, 5], [4, 5]), ([6], [6]), ([7], [7]), ([7], [7]), ([], []), ([10, 8, 6, 0, 1, 2, 3, 4, 5, 6, 7, 8, 10], [8, 10]), ([9, 11, 0, 1, 2, 3, 4, 5, 6, 7, 8, 9, 10, 11], [9])])
def msgs_Put.B10 : List Nat := [0, 1, 0, 7, 15, 0, 63, 127, 255, 255, 0, 1535, 4095]
theorem msgs_Put.tab10 : rtab .any (opsOf Tryd.f5 10) = msgs_Put.T10 := by kernel_rfl
theorem msgs_Put.bits10 : waitsOk msgs_Put.T10.2 msgs_Put.B10 = true := by kernel_rfl
set_option maxHeartbeats 8000000 in
set_option maxRecDepth 100000 in
theorem msgs_Put.calls (k : Nat) (a0 : Int) (A1 : Option Addr) (c1 : Nat) (l1 : List (S37)) (r1 : List Int) (r2 : Int) (w : World) (hr1 : Kd.C k37 w A1 l1.length l1) (hc1 : l1.length ≤ c1) (h : msgs_Put.f k a0 l1 = some (r1, r2)) :
  Calls Tryd.prog 5 #[.int .i64 a0, .slice A1 l1.length c1] w fun e w' => ∃ v0_ : Value, e = .returned (.tuple #[v0_, .int .i64 r2]) ∧ Kd.R (Kd.int .u8) 5 w' w.heap.size (fun _ => True) v0_ r1 ∧ Below w.heap.size w w' := by
 have hu41 := Tryd.underlying41
 have hu37 := Tryd.underlying37
 have hu45 := Tryd.underlying45
 have HR1 := Aside0.mk hr1
 have HC1 := Aside0.mk hc1
 clear hr1 hc1
 have HB := Aside0.mk (Below.refl w.heap.size w)
 have H : ((msgs_shapeOf.f a0).bind fun bt295 => (if bt295.1 = 0 then (some (([] : List Int), 1)) else (if (l1.length : Int) = (bt295.2.length : Int) then (msgs_Put.l0 k ([] : List (S45)) l1 (l1.length : Int) 0 bt295.1 bt295.2) else (some (([] : List Int), 181))))) = some (r1, r2) := h
 clear h
 replace H := Option.bind_eq_some_iff.mp H
 obtain ⟨⟨t295, t296⟩, A30, H⟩ := H
 replace H : (if t295 = 0 then (some (([] : List Int), 1)) else (if (l1.length : Int) = (t296.length : Int) then (msgs_Put.l0 k ([] : List (S45)) l1 (l1.length : Int) 0 t295 t296) else (some (([] : List Int), 181)))) = some (r1, r2) := H
 have A3 := Aside0.mk A30
 clear A30
 by_cases c4 : t295 = 0
 ·rw [if_pos c4] at H
  have c4b0 : (t295 == 0) = true := beq_iff_eq.mpr c4
  have c4b1 : (t295 != 0) = false := bne_eq_false_iff_eq.mpr c4
  clear c4
  simp only [Option.some.injEq, Prod.mk.injEq] at H
  obtain ⟨rfl, rfl⟩ := H
  go_enter Tryd.func5, Tryd.ntmps5
  go_wp2_with (first | ((with_reducible refine gate_callee (f := 8) rfl ?_); refine goesL_ (some 13) rfl rfl Tryd.func8 (by kernel_rfl) rfl #[.int .i64 a0] rfl (by (try simp only [List.map_toArray, List.map_cons, List.map_nil]); first | done | rfl | (simp only [List.length_drop, List.length_take]; rfl)) ?_; (with_reducible refine (msgs_shapeOf.calls a0 t295 t296 _ A3.out).mono ?_); rintro e w5 ⟨v297, rfl, ho0, hb⟩; refine ⟨_, rfl, ?_⟩; have n0_ := Aside0.mk (Kd.R_lower ho0 (below_size (by repeat (first | (with_reducible first | exact HB.out | apply below_alloc | apply pw_below_drewN | apply below_drew1) | exact HB.out)))); have n1_ := Aside0.mk (below_step (by repeat (first | (with_reducible first | exact HB.out | apply below_alloc | apply pw_below_drewN | apply below_drew1) | exact HB.out)) hb); clear HB; have HO298 := n0_; have HB := n1_; clear n0_ n1_; (try clear hb); (try clear hb2); (try clear hk); (try clear hi); (try clear ho0)) | ((with_reducible refine gate_dst (N := 6) rfl ?_); refine box_event ?hg (N := 6) ?hd (cs := #[.int .u8 0, .slice none 0 0]) (t := 41) ?hr ?_; (case hd => rfl); (case hg => rfl); (case hr => first | (go_simp; done) | (go_simp; rfl)); intro gb299 hg w6 hbox hb; have n0_ := Aside0.mk (Kd.R_below (by (with_reducible repeat (first | apply Kd.R_alloc | apply Kd.R_drewN | apply Kd.R_drew)); exact HO298.out) hb); have n1_ := Aside0.mk (below_step (by repeat (first | (with_reducible first | exact HB.out | apply below_alloc | apply pw_below_drewN | apply below_drew1) | exact HB.out)) hb); have n2_ := Aside0.mk (hbox); have n3_ := Aside0.mk ((by rw [hg]; exact (below_size (by repeat (first | (with_reducible first | exact HB.out | apply below_alloc | apply pw_below_drewN | apply below_drew1) | exact HB.out))) : w.heap.size ≤ gb299)); have n4_ := Aside0.mk ((by rw [hg]; exact (below_size (by repeat (first | (with_reducible first | exact HB.out | apply below_alloc | apply pw_below_drewN | apply below_drew1) | exact HB.out))) : w.heap.size ≤ gb299)); clear HO298; clear HB; have HO298 := n0_; have HB := n1_; have BK299 := n2_; have GW299 := n3_; have GE299 := n4_; clear n0_ n1_ n2_ n3_ n4_; clear hb hbox hg; have hcz7_0 : w6.cell? ⟨gb299, 0, none⟩ = some (.int .u8 0) := (blk_cell BK299.out 0).trans rfl; have hcz7_1 : w6.cell? ⟨gb299, 1, none⟩ = some (.slice none 0 0) := (blk_cell BK299.out 1).trans rfl; have hfz7_0 := blk_frozen BK299.out 0; have hfz7_1 := blk_frozen BK299.out 1; obtain ⟨Ao8, co8, eo8⟩ := Kd.R_slice HO298.out; subst eo8))
  go_ret2
  exact ⟨_, by first | rfl | (simp [errW_none, errW_some] <;> rfl) | (simp [*, errW_none, errW_some] <;> rfl), by first | exact Kd.R_nil _ _ _ _ _ | exact Kd.N_nil _ _ _ _ _ | exact Kd.V_nil _ _ _ _ _ | exact Kd.Q_nil _ _ _ _ _ | exact Kd.S_nil _ _ _ _ _, by repeat (first | (with_reducible first | exact HB.out | apply below_alloc | apply pw_below_drewN | apply below_drew1 | refine below_set ?_ GE299.out) | exact HB.out)⟩
 ·rw [if_neg c4] at H
  have c4b0 : (t295 == 0) = false := beq_eq_false_iff_ne.mpr c4
  have c4b1 : (t295 != 0) = true := bne_iff_ne.mpr c4
  by_cases c9 : (l1.length : Int) = (t296.length : Int)
  ·rw [if_pos c9] at H
   have c9b0 : ((l1.length : Int) == (t296.length : Int)) = true := beq_iff_eq.mpr c9
   have c9b1 : ((l1.length : Int) != (t296.length : Int)) = false := bne_eq_false_iff_eq.mpr c9
   have c9b2 : (l1.length == t296.length) = true := by first | simpa using c9 | (simp at c9 ⊢; omega)
   clear c9
   have H' := Aside0.mk H
   clear H
   go_enter Tryd.func5, Tryd.ntmps5
   go_wp2_with (first | ((with_reducible refine gate_callee (f := 8) rfl ?_); refine goesL_ (some 13) rfl rfl Tryd.func8 (by kernel_rfl) rfl #[.int .i64 a0] rfl (by (try simp only [List.map_toArray, List.map_cons, List.map_nil]); first | done | rfl | (simp only [List.length_drop, List.length_take]; rfl)) ?_; (with_reducible refine (msgs_shapeOf.calls a0 t295 t296 _ A3.out).mono ?_); rintro e w10 ⟨v297, rfl, ho0, hb⟩; refine ⟨_, rfl, ?_⟩; have n0_ := Aside0.mk (Kd.R_lower ho0 (below_size (by repeat (first | (with_reducible first | exact HB.out | apply below_alloc | apply pw_below_drewN | apply below_drew1) | exact HB.out)))); have n1_ := Aside0.mk (below_step (by repeat (first | (with_reducible first | exact HB.out | apply below_alloc | apply pw_below_drewN | apply below_drew1) | exact HB.out)) hb); clear HB; have HO298 := n0_; have HB := n1_; clear n0_ n1_; (try clear hb); (try clear hb2); (try clear hk); (try clear hi); (try clear ho0)) | ((with_reducible refine gate_dst (N := 6) rfl ?_); refine box_event ?hg (N := 6) ?hd (cs := #[.int .u8 0, .slice none 0 0]) (t := 41) ?hr ?_; (case hd => rfl); (case hg => rfl); (case hr => first | (go_simp; done) | (go_simp; rfl)); intro gb299 hg w11 hbox hb; have n0_ := Aside0.mk (Kd.R_below (by (with_reducible repeat (first | apply Kd.R_alloc | apply Kd.R_drewN | apply Kd.R_drew)); exact HO298.out) hb); have n1_ := Aside0.mk (below_step (by repeat (first | (with_reducible first | exact HB.out | apply below_alloc | apply pw_below_drewN | apply below_drew1) | exact HB.out)) hb); have n2_ := Aside0.mk (hbox); have n3_ := Aside0.mk ((by rw [hg]; exact (below_size (by repeat (first | (with_reducible first | exact HB.out | apply below_alloc | apply pw_below_drewN | apply below_drew1) | exact HB.out))) : w.heap.size ≤ gb299)); have n4_ := Aside0.mk ((by rw [hg]; exact (below_size (by repeat (first | (with_reducible first | exact HB.out | apply below_alloc | apply pw_below_drewN | apply below_drew1) | exact HB.out))) : w.heap.size ≤ gb299)); clear HO298; clear HB; have HO298 := n0_; have HB := n1_; have BK299 := n2_; have GW299 := n3_; have GE299 := n4_; clear n0_ n1_ n2_ n3_ n4_; clear hb hbox hg; have hcz12_0 : w11.cell? ⟨gb299, 0, none⟩ = some (.int .u8 0) := (blk_cell BK299.out 0).trans rfl; have hcz12_1 : w11.cell? ⟨gb299, 1, none⟩ = some (.slice none 0 0) := (blk_cell BK299.out 1).trans rfl; have hfz12_0 := blk_frozen BK299.out 0; have hfz12_1 := blk_frozen BK299.out 1; obtain ⟨Ao13, co13, eo13⟩ := Kd.R_slice HO298.out; subst eo13))
   go_loopg [7, 25] k (fun kq v7 v25 w' => ∃ (x7_1 : List (S45)) (x25_1 : Int), v25 = .int .i64 x25_1 ∧ Aside0 (msgs_Put.l0 kq x7_1 l1 (l1.length : Int) x25_1 t295 t296 = some (r1, r2)) ∧ Aside0 (kq ≤ k) ∧ Aside0 (Kd.N k45 45 w' w.heap.size (fun k_ => some k_ ≠ ((.slice Ao13 t296.length co13) : Value).ownBlock ∧ k_ ≠ gb299) v7 x7_1) ∧ Aside0 (Kd.R Kd.anyK 20 w' w.heap.size (fun _ => True) (.slice Ao13 t296.length co13) t296) ∧ Aside0 (w'.heap[gb299]? = some (.cells #[.int .u8 t295, (.slice Ao13 t296.length co13)] 41 (0, 0))) ∧ Aside0 (Below w.heap.size w w'))
   case atStart => exact ⟨(([] : List (S45))), (0), (by first | rfl | (simp; done) | (simp [*]; done)), H', ⟨Nat.le_refl _⟩, ⟨by first | exact Kd.R_nil _ _ _ _ _ | exact Kd.N_nil _ _ _ _ _ | exact Kd.V_nil _ _ _ _ _ | exact Kd.Q_nil _ _ _ _ _ | exact Kd.S_nil _ _ _ _ _⟩, ⟨by (with_reducible repeat (first | apply Kd.R_alloc | apply Kd.R_drewN | apply Kd.R_drew)); exact Kd.R_mono (Kd.R_far (p := ⟨gb299, 1, none⟩) (Kd.R_far (p := ⟨gb299, 0, none⟩) (Kd.R_types HO298.out BK299.out (by decide)) (fun _ hk => hk.2) (.int .u8 t295)) (fun _ hk => hk.2) (.slice Ao13 t296.length co13)) (fun _ hk => trivial)⟩, ⟨by (with_reducible repeat (first | refine blk_drewN ?_ _ | refine blk_drew ?_ | refine blk_alloc ?_ _)); refine blk_put (cs := #[.int .u8 t295, .slice none 0 0]) ?_ 1 _ rfl; (with_reducible repeat (first | refine blk_drewN ?_ _ | refine blk_drew ?_ | refine blk_alloc ?_ _)); refine blk_put (cs := #[.int .u8 0, .slice none 0 0]) ?_ 0 _ rfl; (with_reducible repeat (first | refine blk_drewN ?_ _ | refine blk_drew ?_ | refine blk_alloc ?_ _)); exact BK299.out⟩, ⟨by repeat (first | (with_reducible first | exact HB.out | apply below_alloc | apply pw_below_drewN | apply below_drew1 | refine below_set ?_ GE299.out) | exact HB.out)⟩⟩
   case round =>
    clear H'
    try clear c1
    try clear p2
    try clear c4
    try clear c4b0
    try clear c4b1
    try clear c5
    try clear c8
    try clear c9
    try clear c9b0
    try clear c9b1
    try clear c9b2
    try clear hcz12_0
    try clear hcz12_1
    try clear hcz7_0
    try clear hcz7_1
    try clear hfz12_0
    try clear hfz12_1
    try clear hfz7_0
    try clear hfz7_1
    obtain ⟨x7_1, x25_1, rfl, HA, HK1, HO_7, HO_300001, BK299, HB⟩ := hrel
    cases gk with
    | zero => exact absurd HA.out (by simp [msgs_Put.l0])
    | succ k1 =>
     have H := HA.out
     clear HA
     simp only [msgs_Put.l0] at H
     by_cases c14 : x25_1 < (l1.length : Int)
     ·rw [if_pos c14] at H
      have c14b0 : decide (x25_1 < (l1.length : Int)) = true := decide_eq_true c14
      clear c14
      by_cases c15 : 0 ≤ x25_1
      ·rw [if_pos c15] at H
       have c15b0 : decide (0 ≤ x25_1) = true := decide_eq_true c15
       clear c15
       by_cases c16 : x25_1 < (l1.length : Int)
       ·rw [if_pos c16] at H
        have c16b0 : decide (x25_1 < (l1.length : Int)) = true := decide_eq_true c16
        clear c16
        by_cases c17 : x25_1 < (t296.length : Int)
        ·rw [if_pos c17] at H
         have c17b0 : decide (x25_1 < (t296.length : Int)) = true := decide_eq_true c17
         clear c17
         replace H := Option.bind_eq_some_iff.mp H
         obtain ⟨⟨t303, t304, t307, t310⟩, A180, H⟩ := H
         replace H : (if t310 = true then (if x7_1.length < 2513169434916 then (msgs_Put.l0 k1 (x7_1 ++ [(⟨t303, t304, t307⟩ : S45)]) l1 (l1.length : Int) (wrap64 (x25_1 + 1)) t295 t296) else (none)) else (some (([] : List Int), 181))) = some (r1, r2) := H
         have A18 := Aside0.mk A180
         clear A180
         by_cases c19 : t310 = true
         ·subst c19
          have H1 : (if x7_1.length < 2513169434916 then (msgs_Put.l0 k1 (x7_1 ++ [(⟨t303, t304, t307⟩ : S45)]) l1 (l1.length : Int) (wrap64 (x25_1 + 1)) t295 t296) else (none)) = some (r1, r2) := by rw [if_pos rfl] at H; exact H
          clear H
          have H := H1
          clear H1
          by_cases c20 : x7_1.length < 2513169434916
          ·rw [if_pos c20] at H
           have LMc20 := Aside0.mk c20
           clear c20
           obtain ⟨y312, hy312⟩ : ∃ y_ : List (S45), y_ = (x7_1 ++ [(⟨t303, t304, t307⟩ : S45)]) := ⟨_, rfl⟩
           replace H : (msgs_Put.l0 k1 y312 l1 (l1.length : Int) (wrap64 (x25_1 + 1)) t295 t296) = some (r1, r2) := by first | (rw [hy312]; with_reducible exact H) | (have H2_ := (Option.bind_some _ _).symm.trans H; rw [hy312]; with_reducible exact H2_) | (have H2_ := (Option.bind_some _ _).symm.trans H; with_reducible exact H2_) | with_reducible exact H | (rw [hy312]; exact H) | exact H
           have Ny312 := Aside0.mk hy312
           clear hy312
           have H' := Aside0.mk H
           clear H
           have p300 : 0 ≤ (x25_1 : Int) := of_decide_eq_true (by first | (with_reducible assumption) | assumption)
           have q300 : x25_1 < (l1.length : Int) := of_decide_eq_true (by first | (with_reducible assumption) | assumption)
           obtain ⟨ad300, A300_1, c300_1, A300_3, c300_3, A300_5, c300_5, e300, hx300_0, hx300_1, hx300_2, hx300_3, hx300_4, hx300_5, hx300_6, hl300_1, hi300_1, hl300_3, hi300_3, hl300_5, hi300_5⟩ := at_T37 HR1.out x25_1 p300 q300
           cases e300
           replace hx300_0 := (HB.out.cell (World.block_lt_of_cell? w _ hx300_0)).trans hx300_0
           replace hx300_1 := (HB.out.cell (World.block_lt_of_cell? w _ hx300_1)).trans hx300_1
           replace hx300_2 := (HB.out.cell (World.block_lt_of_cell? w _ hx300_2)).trans hx300_2
           replace hx300_3 := (HB.out.cell (World.block_lt_of_cell? w _ hx300_3)).trans hx300_3
           replace hx300_4 := (HB.out.cell (World.block_lt_of_cell? w _ hx300_4)).trans hx300_4
           replace hx300_5 := (HB.out.cell (World.block_lt_of_cell? w _ hx300_5)).trans hx300_5
           replace hx300_6 := (HB.out.cell (World.block_lt_of_cell? w _ hx300_6)).trans hx300_6
           have HR300_1 := Aside0.mk hi300_1
           have HC300_1 := Aside0.mk hl300_1
           clear hi300_1 hl300_1
           have HR300_3 := Aside0.mk hi300_3
           have HC300_3 := Aside0.mk hl300_3
           clear hi300_3 hl300_3
           have HR300_5 := Aside0.mk hi300_5
           have HC300_5 := Aside0.mk hl300_5
           clear hi300_5 hl300_5
           replace p300 := eq_true p300
           replace q300 := eq_true q300
           try go_wp2_with (first | ((with_reducible refine gate_dst (N := 9) rfl ?_); refine box_event ?hg (N := 9) ?hd (cs := #[.int .i64 0, .slice none 0 0, .string (⟨#[]⟩ : ByteArray), .slice none 0 0, .string (⟨#[]⟩ : ByteArray), .slice none 0 0, .int .i64 0]) (t := 37) ?hr ?_; (case hd => rfl); (case hg => rfl); (case hr => first | (go_simp; done) | (go_simp; rfl)); intro gb301 hg w21 hbox hb; have n0_ := Aside0.mk (Kd.N_below (Kd.N_elderB (by (with_reducible repeat (first | apply Kd.N_alloc | apply Kd.N_drewN | apply Kd.N_drew)); exact HO_7.out) gb301 (Nat.le_of_eq hg.symm)) hb); have n1_ := Aside0.mk (Kd.R_below (by (with_reducible repeat (first | apply Kd.R_alloc | apply Kd.R_drewN | apply Kd.R_drew)); exact HO_300001.out) hb); have n2_ := Aside0.mk (blk_below (g := gb299) (o := .cells #[.int .u8 t295, .slice Ao13 t296.length co13] 41 (0, 0)) (by (with_reducible repeat (first | refine blk_drewN ?_ _ | refine blk_drew ?_ | refine blk_alloc ?_ _)); exact BK299.out) hb); have n3_ := Aside0.mk (below_step (by repeat (first | (with_reducible first | exact HB.out | apply below_alloc | apply pw_below_drewN | apply below_drew1 | refine below_set ?_ GE299.out) | exact HB.out)) hb); have n4_ := Aside0.mk (hbox); have n5_ := Aside0.mk ((by rw [hg]; exact (below_size (by repeat (first | (with_reducible first | exact HB.out | apply below_alloc | apply pw_below_drewN | apply below_drew1 | refine below_set ?_ GE299.out) | exact HB.out))) : w.heap.size ≤ gb301)); have n6_ := Aside0.mk ((by rw [hg]; exact (below_size (by repeat (first | (with_reducible first | exact HB.out | apply below_alloc | apply pw_below_drewN | apply below_drew1 | refine below_set ?_ GE299.out) | exact HB.out))) : w.heap.size ≤ gb301)); have n7_ := Aside0.mk ((by rw [hg]; exact Nat.ne_of_lt (blk_lt (g := gb299) (o := .cells #[.int .u8 t295, .slice Ao13 t296.length co13] 41 (0, 0)) (by (with_reducible repeat (first | refine blk_drewN ?_ _ | refine blk_drew ?_ | refine blk_alloc ?_ _)); exact BK299.out)) : gb299 ≠ gb301)); have n8_ := Aside0.mk ((by rw [hg]; exact Nat.ne_of_gt (blk_lt (g := gb299) (o := .cells #[.int .u8 t295, .slice Ao13 t296.length co13] 41 (0, 0)) (by (with_reducible repeat (first | refine blk_drewN ?_ _ | refine blk_drew ?_ | refine blk_alloc ?_ _)); exact BK299.out)) : gb301 ≠ gb299)); clear HO_7; clear HO_300001; clear BK299; clear HB; have HO_7 := n0_; have HO_300001 := n1_; have BK299 := n2_; have HB := n3_; have BK301 := n4_; have GW301 := n5_; have GE301 := n6_; have NB299_301 := n7_; have NB301_299 := n8_; clear n0_ n1_ n2_ n3_ n4_ n5_ n6_ n7_ n8_; clear hb hbox hg; have hnb22 := NB301_299.out; have hnc22 := NB299_301.out; have hcz23_0 : w21.cell? ⟨gb301, 0, none⟩ = some (.int .i64 0) := (blk_cell BK301.out 0).trans rfl; have hcz23_1 : w21.cell? ⟨gb301, 1, none⟩ = some (.slice none 0 0) := (blk_cell BK301.out 1).trans rfl; have hcz23_2 : w21.cell? ⟨gb301, 2, none⟩ = some (.string (⟨#[]⟩ : ByteArray)) := (blk_cell BK301.out 2).trans rfl; have hcz23_3 : w21.cell? ⟨gb301, 3, none⟩ = some (.slice none 0 0) := (blk_cell BK301.out 3).trans rfl; have hcz23_4 : w21.cell? ⟨gb301, 4, none⟩ = some (.string (⟨#[]⟩ : ByteArray)) := (blk_cell BK301.out 4).trans rfl; have hcz23_5 : w21.cell? ⟨gb301, 5, none⟩ = some (.slice none 0 0) := (blk_cell BK301.out 5).trans rfl; have hcz23_6 : w21.cell? ⟨gb301, 6, none⟩ = some (.int .i64 0) := (blk_cell BK301.out 6).trans rfl; have hfz23_0 := blk_frozen BK301.out 0; have hfz23_1 := blk_frozen BK301.out 1; have hfz23_2 := blk_frozen BK301.out 2; have hfz23_3 := blk_frozen BK301.out 3; have hfz23_4 := blk_frozen BK301.out 4; have hfz23_5 := blk_frozen BK301.out 5; have hfz23_6 := blk_frozen BK301.out 6))
           have n0_ : Aside0 (Kd.N k45 45 (((((((w21.setCell ⟨gb301, 0, none⟩ (.int .i64 ((rd_T37 l1 x25_1).f0))).setCell ⟨gb301, 1, none⟩ (.slice A300_1 ((rd_T37 l1 x25_1).f1).length c300_1)).setCell ⟨gb301, 2, none⟩ (.string ((rd_T37 l1 x25_1).f2.f0))).setCell ⟨gb301, 3, none⟩ (.slice A300_3 ((rd_T37 l1 x25_1).f2.f1).length c300_3)).setCell ⟨gb301, 4, none⟩ (.string ((rd_T37 l1 x25_1).f3.f0.f0))).setCell ⟨gb301, 5, none⟩ (.slice A300_5 ((rd_T37 l1 x25_1).f3.f0.f1).length c300_5)).setCell ⟨gb301, 6, none⟩ (.int .i64 ((rd_T37 l1 x25_1).f3.f1))) w.heap.size (fun k_ => some k_ ≠ (.slice Ao13 t296.length co13 : Value).ownBlock ∧ k_ ≠ gb299 ∧ k_ ≠ gb301) u7 x7_1) := ⟨by (with_reducible repeat (first | apply Kd.N_alloc | apply Kd.N_drewN | apply Kd.N_drew)); exact Kd.N_mono (Kd.N_far (p := ⟨gb301, 6, none⟩) (Kd.N_far (p := ⟨gb301, 5, none⟩) (Kd.N_far (p := ⟨gb301, 4, none⟩) (Kd.N_far (p := ⟨gb301, 3, none⟩) (Kd.N_far (p := ⟨gb301, 2, none⟩) (Kd.N_far (p := ⟨gb301, 1, none⟩) (Kd.N_far (p := ⟨gb301, 0, none⟩) (Kd.N_mono HO_7.out (fun k_ hk => (⟨hk, hk.2⟩ : _ ∧ k_ ≠ gb301))) (fun _ hk => hk.2) (.int .i64 ((rd_T37 l1 x25_1).f0))) (fun _ hk => hk.2) (.slice A300_1 ((rd_T37 l1 x25_1).f1).length c300_1)) (fun _ hk => hk.2) (.string ((rd_T37 l1 x25_1).f2.f0))) (fun _ hk => hk.2) (.slice A300_3 ((rd_T37 l1 x25_1).f2.f1).length c300_3)) (fun _ hk => hk.2) (.string ((rd_T37 l1 x25_1).f3.f0.f0))) (fun _ hk => hk.2) (.slice A300_5 ((rd_T37 l1 x25_1).f3.f0.f1).length c300_5)) (fun _ hk => hk.2) (.int .i64 ((rd_T37 l1 x25_1).f3.f1))) (fun _ hk => ⟨hk.1.1.1, ⟨hk.1.1.2, hk.1.2⟩⟩)⟩
           have n1_ : Aside0 (Kd.R Kd.anyK 20 (((((((w21.setCell ⟨gb301, 0, none⟩ (.int .i64 ((rd_T37 l1 x25_1).f0))).setCell ⟨gb301, 1, none⟩ (.slice A300_1 ((rd_T37 l1 x25_1).f1).length c300_1)).setCell ⟨gb301, 2, none⟩ (.string ((rd_T37 l1 x25_1).f2.f0))).setCell ⟨gb301, 3, none⟩ (.slice A300_3 ((rd_T37 l1 x25_1).f2.f1).length c300_3)).setCell ⟨gb301, 4, none⟩ (.string ((rd_T37 l1 x25_1).f3.f0.f0))).setCell ⟨gb301, 5, none⟩ (.slice A300_5 ((rd_T37 l1 x25_1).f3.f0.f1).length c300_5)).setCell ⟨gb301, 6, none⟩ (.int .i64 ((rd_T37 l1 x25_1).f3.f1))) w.heap.size (fun _ => True) (.slice Ao13 t296.length co13) t296) := ⟨by (with_reducible repeat (first | apply Kd.R_alloc | apply Kd.R_drewN | apply Kd.R_drew)); exact Kd.R_mono (Kd.R_far (p := ⟨gb301, 6, none⟩) (Kd.R_far (p := ⟨gb301, 5, none⟩) (Kd.R_far (p := ⟨gb301, 4, none⟩) (Kd.R_far (p := ⟨gb301, 3, none⟩) (Kd.R_far (p := ⟨gb301, 2, none⟩) (Kd.R_far (p := ⟨gb301, 1, none⟩) (Kd.R_far (p := ⟨gb301, 0, none⟩) (Kd.R_types HO_300001.out BK301.out (by decide)) (fun _ hk => hk.2) (.int .i64 ((rd_T37 l1 x25_1).f0))) (fun _ hk => hk.2) (.slice A300_1 ((rd_T37 l1 x25_1).f1).length c300_1)) (fun _ hk => hk.2) (.string ((rd_T37 l1 x25_1).f2.f0))) (fun _ hk => hk.2) (.slice A300_3 ((rd_T37 l1 x25_1).f2.f1).length c300_3)) (fun _ hk => hk.2) (.string ((rd_T37 l1 x25_1).f3.f0.f0))) (fun _ hk => hk.2) (.slice A300_5 ((rd_T37 l1 x25_1).f3.f0.f1).length c300_5)) (fun _ hk => hk.2) (.int .i64 ((rd_T37 l1 x25_1).f3.f1))) (fun _ hk => trivial)⟩
           have n2_ : Aside0 ((((((((w21.setCell ⟨gb301, 0, none⟩ (.int .i64 ((rd_T37 l1 x25_1).f0))).setCell ⟨gb301, 1, none⟩ (.slice A300_1 ((rd_T37 l1 x25_1).f1).length c300_1)).setCell ⟨gb301, 2, none⟩ (.string ((rd_T37 l1 x25_1).f2.f0))).setCell ⟨gb301, 3, none⟩ (.slice A300_3 ((rd_T37 l1 x25_1).f2.f1).length c300_3)).setCell ⟨gb301, 4, none⟩ (.string ((rd_T37 l1 x25_1).f3.f0.f0))).setCell ⟨gb301, 5, none⟩ (.slice A300_5 ((rd_T37 l1 x25_1).f3.f0.f1).length c300_5)).setCell ⟨gb301, 6, none⟩ (.int .i64 ((rd_T37 l1 x25_1).f3.f1))).heap[gb299]? = some (.cells #[.int .u8 t295, .slice Ao13 t296.length co13] 41 (0, 0))) := ⟨by (with_reducible repeat (first | refine blk_drewN ?_ _ | refine blk_drew ?_ | refine blk_alloc ?_ _)); refine blk_far ?_ NB299_301.out _; (with_reducible repeat (first | refine blk_drewN ?_ _ | refine blk_drew ?_ | refine blk_alloc ?_ _)); refine blk_far ?_ NB299_301.out _; (with_reducible repeat (first | refine blk_drewN ?_ _ | refine blk_drew ?_ | refine blk_alloc ?_ _)); refine blk_far ?_ NB299_301.out _; (with_reducible repeat (first | refine blk_drewN ?_ _ | refine blk_drew ?_ | refine blk_alloc ?_ _)); refine blk_far ?_ NB299_301.out _; (with_reducible repeat (first | refine blk_drewN ?_ _ | refine blk_drew ?_ | refine blk_alloc ?_ _)); refine blk_far ?_ NB299_301.out _; (with_reducible repeat (first | refine blk_drewN ?_ _ | refine blk_drew ?_ | refine blk_alloc ?_ _)); refine blk_far ?_ NB299_301.out _; (with_reducible repeat (first | refine blk_drewN ?_ _ | refine blk_drew ?_ | refine blk_alloc ?_ _)); refine blk_far ?_ NB299_301.out _; (with_reducible repeat (first | refine blk_drewN ?_ _ | refine blk_drew ?_ | refine blk_alloc ?_ _)); exact BK299.out⟩
           have n3_ : Aside0 ((((((((w21.setCell ⟨gb301, 0, none⟩ (.int .i64 ((rd_T37 l1 x25_1).f0))).setCell ⟨gb301, 1, none⟩ (.slice A300_1 ((rd_T37 l1 x25_1).f1).length c300_1)).setCell ⟨gb301, 2, none⟩ (.string ((rd_T37 l1 x25_1).f2.f0))).setCell ⟨gb301, 3, none⟩ (.slice A300_3 ((rd_T37 l1 x25_1).f2.f1).length c300_3)).setCell ⟨gb301, 4, none⟩ (.string ((rd_T37 l1 x25_1).f3.f0.f0))).setCell ⟨gb301, 5, none⟩ (.slice A300_5 ((rd_T37 l1 x25_1).f3.f0.f1).length c300_5)).setCell ⟨gb301, 6, none⟩ (.int .i64 ((rd_T37 l1 x25_1).f3.f1))).heap[gb301]? = some (.cells #[.int .i64 ((rd_T37 l1 x25_1).f0), .slice A300_1 ((rd_T37 l1 x25_1).f1).length c300_1, .string ((rd_T37 l1 x25_1).f2.f0), .slice A300_3 ((rd_T37 l1 x25_1).f2.f1).length c300_3, .string ((rd_T37 l1 x25_1).f3.f0.f0), .slice A300_5 ((rd_T37 l1 x25_1).f3.f0.f1).length c300_5, .int .i64 ((rd_T37 l1 x25_1).f3.f1)] 37 (0, 0))) := ⟨by (with_reducible repeat (first | refine blk_drewN ?_ _ | refine blk_drew ?_ | refine blk_alloc ?_ _)); refine blk_put (cs := #[.int .i64 ((rd_T37 l1 x25_1).f0), .slice A300_1 ((rd_T37 l1 x25_1).f1).length c300_1, .string ((rd_T37 l1 x25_1).f2.f0), .slice A300_3 ((rd_T37 l1 x25_1).f2.f1).length c300_3, .string ((rd_T37 l1 x25_1).f3.f0.f0), .slice A300_5 ((rd_T37 l1 x25_1).f3.f0.f1).length c300_5, .int .i64 0]) ?_ 6 _ rfl; (with_reducible repeat (first | refine blk_drewN ?_ _ | refine blk_drew ?_ | refine blk_alloc ?_ _)); refine blk_put (cs := #[.int .i64 ((rd_T37 l1 x25_1).f0), .slice A300_1 ((rd_T37 l1 x25_1).f1).length c300_1, .string ((rd_T37 l1 x25_1).f2.f0), .slice A300_3 ((rd_T37 l1 x25_1).f2.f1).length c300_3, .string ((rd_T37 l1 x25_1).f3.f0.f0), .slice none 0 0, .int .i64 0]) ?_ 5 _ rfl; (with_reducible repeat (first | refine blk_drewN ?_ _ | refine blk_drew ?_ | refine blk_alloc ?_ _)); refine blk_put (cs := #[.int .i64 ((rd_T37 l1 x25_1).f0), .slice A300_1 ((rd_T37 l1 x25_1).f1).length c300_1, .string ((rd_T37 l1 x25_1).f2.f0), .slice A300_3 ((rd_T37 l1 x25_1).f2.f1).length c300_3, .string (⟨#[]⟩ : ByteArray), .slice none 0 0, .int .i64 0]) ?_ 4 _ rfl; (with_reducible repeat (first | refine blk_drewN ?_ _ | refine blk_drew ?_ | refine blk_alloc ?_ _)); refine blk_put (cs := #[.int .i64 ((rd_T37 l1 x25_1).f0), .slice A300_1 ((rd_T37 l1 x25_1).f1).length c300_1, .string ((rd_T37 l1 x25_1).f2.f0), .slice none 0 0, .string (⟨#[]⟩ : ByteArray), .slice none 0 0, .int .i64 0]) ?_ 3 _ rfl; (with_reducible repeat (first | refine blk_drewN ?_ _ | refine blk_drew ?_ | refine blk_alloc ?_ _)); refine blk_put (cs := #[.int .i64 ((rd_T37 l1 x25_1).f0), .slice A300_1 ((rd_T37 l1 x25_1).f1).length c300_1, .string (⟨#[]⟩ : ByteArray), .slice none 0 0, .string (⟨#[]⟩ : ByteArray), .slice none 0 0, .int .i64 0]) ?_ 2 _ rfl; (with_reducible repeat (first | refine blk_drewN ?_ _ | refine blk_drew ?_ | refine blk_alloc ?_ _)); refine blk_put (cs := #[.int .i64 ((rd_T37 l1 x25_1).f0), .slice none 0 0, .string (⟨#[]⟩ : ByteArray), .slice none 0 0, .string (⟨#[]⟩ : ByteArray), .slice none 0 0, .int .i64 0]) ?_ 1 _ rfl; (with_reducible repeat (first | refine blk_drewN ?_ _ | refine blk_drew ?_ | refine blk_alloc ?_ _)); refine blk_put (cs := #[.int .i64 0, .slice none 0 0, .string (⟨#[]⟩ : ByteArray), .slice none 0 0, .string (⟨#[]⟩ : ByteArray), .slice none 0 0, .int .i64 0]) ?_ 0 _ rfl; (with_reducible repeat (first | refine blk_drewN ?_ _ | refine blk_drew ?_ | refine blk_alloc ?_ _)); exact BK301.out⟩
           have n4_ : Aside0 (Below w.heap.size w (((((((w21.setCell ⟨gb301, 0, none⟩ (.int .i64 ((rd_T37 l1 x25_1).f0))).setCell ⟨gb301, 1, none⟩ (.slice A300_1 ((rd_T37 l1 x25_1).f1).length c300_1)).setCell ⟨gb301, 2, none⟩ (.string ((rd_T37 l1 x25_1).f2.f0))).setCell ⟨gb301, 3, none⟩ (.slice A300_3 ((rd_T37 l1 x25_1).f2.f1).length c300_3)).setCell ⟨gb301, 4, none⟩ (.string ((rd_T37 l1 x25_1).f3.f0.f0))).setCell ⟨gb301, 5, none⟩ (.slice A300_5 ((rd_T37 l1 x25_1).f3.f0.f1).length c300_5)).setCell ⟨gb301, 6, none⟩ (.int .i64 ((rd_T37 l1 x25_1).f3.f1)))) := ⟨by repeat (first | (with_reducible first | exact HB.out | apply below_alloc | apply pw_below_drewN | apply below_drew1 | refine below_set ?_ GE299.out | refine below_set ?_ GE301.out) | exact HB.out)⟩
           (try clear HO_7)
           (try clear HO_300001)
           (try clear BK299)
           (try clear BK301)
           (try clear HB)
           generalize (((((((w21.setCell ⟨gb301, 0, none⟩ (.int .i64 ((rd_T37 l1 x25_1).f0))).setCell ⟨gb301, 1, none⟩ (.slice A300_1 ((rd_T37 l1 x25_1).f1).length c300_1)).setCell ⟨gb301, 2, none⟩ (.string ((rd_T37 l1 x25_1).f2.f0))).setCell ⟨gb301, 3, none⟩ (.slice A300_3 ((rd_T37 l1 x25_1).f2.f1).length c300_3)).setCell ⟨gb301, 4, none⟩ (.string ((rd_T37 l1 x25_1).f3.f0.f0))).setCell ⟨gb301, 5, none⟩ (.slice A300_5 ((rd_T37 l1 x25_1).f3.f0.f1).length c300_5)).setCell ⟨gb301, 6, none⟩ (.int .i64 ((rd_T37 l1 x25_1).f3.f1))) = w24 at n0_ n1_ n2_ n3_ n4_ ⊢
           have HO_7 := n0_
           have HO_300001 := n1_
           have BK299 := n2_
           have BK301 := n3_
           have HB := n4_
           clear n0_ n1_ n2_ n3_ n4_
           have n0_ := Aside0.mk (Kd.N_drew HO_7.out)
           have n1_ := Aside0.mk (Kd.R_drew HO_300001.out)
           have n2_ := Aside0.mk (blk_drew BK299.out)
           have n3_ := Aside0.mk (blk_drew BK301.out)
           have n4_ := Aside0.mk (below_drew1 HB.out)
           clear HO_7
           clear HO_300001
           clear BK299
           clear BK301
           clear HB
           have HO_7 := n0_
           have HO_300001 := n1_
           have BK299 := n2_
           have BK301 := n3_
           have HB := n4_
           clear n0_ n1_ n2_ n3_ n4_
           have p302 : 0 ≤ (x25_1 : Int) := of_decide_eq_true (by first | (with_reducible assumption) | assumption)
           have q302 : x25_1 < (t296.length : Int) := of_decide_eq_true (by first | (with_reducible assumption) | assumption)
           obtain ⟨ad302, e302, hx302_0⟩ := Kd.at_any (Kd.R_reads' HO_300001.out).2.2 x25_1 p302 q302
           cases e302
           replace p302 := eq_true p302
           replace q302 := eq_true q302
           refine start_ (n := 13) (S := fun w' => w'.cell? ⟨gb299, 0, none⟩ = some (.int .u8 t295) ∧ w'.cell? ⟨gb299, 1, none⟩ = some (.slice (some ad302) t296.length co13) ∧ w'.cell? ⟨gb301, 0, none⟩ = some (.int .i64 ((rd_T37 l1 x25_1).f0)) ∧ w'.cell? ⟨gb301, 1, none⟩ = some (.slice A300_1 ((rd_T37 l1 x25_1).f1).length c300_1) ∧ w'.cell? ⟨gb301, 2, none⟩ = some (.string ((rd_T37 l1 x25_1).f2.f0)) ∧ w'.cell? ⟨gb301, 3, none⟩ = some (.slice A300_3 ((rd_T37 l1 x25_1).f2.f1).length c300_3) ∧ w'.cell? ⟨gb301, 4, none⟩ = some (.string ((rd_T37 l1 x25_1).f3.f0.f0)) ∧ w'.cell? ⟨gb301, 5, none⟩ = some (.slice A300_5 ((rd_T37 l1 x25_1).f3.f0.f1).length c300_5) ∧ w'.cell? ⟨gb301, 6, none⟩ = some (.int .i64 ((rd_T37 l1 x25_1).f3.f1)) ∧ w'.cell? (ad302.add (x25_1).toNat) = some (anyV (rd t296 x25_1))) (ds := []) #[false, false, false, false, false, false, false, false, false, false, false, false, false] (by kernel_rfl) rfl rfl ⟨(blk_cell BK299.out 0).trans rfl, (blk_cell BK299.out 1).trans rfl, (blk_cell BK301.out 0).trans rfl, (blk_cell BK301.out 1).trans rfl, (blk_cell BK301.out 2).trans rfl, (blk_cell BK301.out 3).trans rfl, (blk_cell BK301.out 4).trans rfl, (blk_cell BK301.out 5).trans rfl, (blk_cell BK301.out 6).trans rfl, hx302_0⟩ (fun hHeld => ?_); refine with_tabW msgs_Put.tab10 msgs_Put.bits10 (fun HT_ HW_ => ?_)
           generalize w24.drew = w25 at HO_7 HO_300001 BK299 BK301 HB hx302_0 hHeld ⊢
           refine pure_ (i := 0) (N := some 31) (v := ?_) (a' := ?_) #[true, false, false, false, false, false, false, false, false, false, false, false, false] rfl rfl (any_of HT_.out (by kernel_rfl)) (fun _ _ _ h => h) (Or.inl ⟨by rfl, ?_⟩) ?_ ?_
           rotate_left
           ·intro w'
            go_simp
            with_reducible rfl
           rotate_left
           ·simp only [Act.put, List.setIfInBounds_toArray, List.set_cons_zero, List.set_cons_succ, i64_w, i32_w]
            rfl
           refine pure_ (i := 2) (N := some 33) (v := ?_) (a' := ?_) #[true, false, true, false, false, false, false, false, false, false, false, false, false] rfl rfl (any_of HT_.out (by kernel_rfl)) (fun _ _ _ h => h) (Or.inl ⟨by rfl, ?_⟩) ?_ ?_
           rotate_left
           ·intro w'
            go_simp
            with_reducible rfl
           rotate_left
           ·simp only [Act.put, List.setIfInBounds_toArray, List.set_cons_zero, List.set_cons_succ, i64_w, i32_w]
            rfl
           refine take_ (i := 1) (N := some 32) (v := ?_) (a' := ?_) #[true, true, true, false, false, false, false, false, false, false, false, false, false] rfl rfl (take_ofW HT_.out HW_.out (by kernel_rfl)) (fun _ _ _ h => h) (Or.inl ⟨by rfl, ?_⟩) hHeld ?_ ?_
           rotate_left
           ·rintro w' ⟨s0, s1, s2, s3, s4, s5, s6, s7, s8, s9⟩
            go_simp
            with_reducible rfl
           rotate_left
           ·simp only [Act.put, List.setIfInBounds_toArray, List.set_cons_zero, List.set_cons_succ, i64_w, i32_w]
            rfl
           refine pure_ (i := 3) (N := some 34) (v := ?_) (a' := ?_) #[true, true, true, true, false, false, false, false, false, false, false, false, false] rfl rfl (any_of HT_.out (by kernel_rfl)) (fun _ _ _ h => h) (Or.inl ⟨by rfl, ?_⟩) ?_ ?_
           rotate_left
           ·intro w'
            go_simp
            with_reducible rfl
           rotate_left
           ·simp only [Act.put, List.setIfInBounds_toArray, List.set_cons_zero, List.set_cons_succ, i64_w, i32_w]
            rfl
           refine take_ (i := 4) (N := some 35) (v := ?_) (a' := ?_) #[true, true, true, true, true, false, false, false, false, false, false, false, false] rfl rfl (take_ofW HT_.out HW_.out (by kernel_rfl)) (fun _ _ _ h => h) (Or.inl ⟨by rfl, ?_⟩) hHeld ?_ ?_
           rotate_left
           ·rintro w' ⟨s0, s1, s2, s3, s4, s5, s6, s7, s8, s9⟩
            go_simp
            with_reducible rfl
           rotate_left
           ·simp only [Act.put, List.setIfInBounds_toArray, List.set_cons_zero, List.set_cons_succ, i64_w, i32_w]
            rfl
           refine take_ (i := 5) (N := some 36) (v := ?_) (a' := ?_) #[true, true, true, true, true, true, false, false, false, false, false, false, false] rfl rfl (take_ofW HT_.out HW_.out (by kernel_rfl)) (fun _ _ _ h => h) (Or.inl ⟨by rfl, ?_⟩) hHeld ?_ ?_
           rotate_left
           ·rintro w' ⟨s0, s1, s2, s3, s4, s5, s6, s7, s8, s9⟩
            go_simp
            with_reducible rfl
           rotate_left
           ·simp only [Act.put, List.setIfInBounds_toArray, List.set_cons_zero, List.set_cons_succ, i64_w, i32_w]
            rfl
           refine join_ (σ := Value × Value × Nat) 2 #[true, true, true, true, true, true, true, true, true, true, true, false, false] (fun s_ => [(37, .tuple #[.agg #[.int .u8 t303, s_.1, s_.2.1], .bool true]), (10, .pointer (some ⟨s_.2.2, 0, none⟩)), (30, .tuple #[.agg #[.int .u8 t303, s_.1, s_.2.1], .bool true]), (38, .agg #[.int .u8 t303, s_.1, s_.2.1]), (39, .bool true)]) (fun s_ w' => (w'.cell? ⟨gb299, 0, none⟩ = some (.int .u8 t295) ∧ w'.cell? ⟨gb299, 1, none⟩ = some (.slice (some ad302) t296.length co13) ∧ w'.cell? ⟨gb301, 0, none⟩ = some (.int .i64 ((rd_T37 l1 x25_1).f0)) ∧ w'.cell? ⟨gb301, 1, none⟩ = some (.slice A300_1 ((rd_T37 l1 x25_1).f1).length c300_1) ∧ w'.cell? ⟨gb301, 2, none⟩ = some (.string ((rd_T37 l1 x25_1).f2.f0)) ∧ w'.cell? ⟨gb301, 3, none⟩ = some (.slice A300_3 ((rd_T37 l1 x25_1).f2.f1).length c300_3) ∧ w'.cell? ⟨gb301, 4, none⟩ = some (.string ((rd_T37 l1 x25_1).f3.f0.f0)) ∧ w'.cell? ⟨gb301, 5, none⟩ = some (.slice A300_5 ((rd_T37 l1 x25_1).f3.f0.f1).length c300_5) ∧ w'.cell? ⟨gb301, 6, none⟩ = some (.int .i64 ((rd_T37 l1 x25_1).f3.f1)) ∧ w'.cell? (ad302.add (x25_1).toNat) = some (anyV (rd t296 x25_1))) ∧ (Kd.V (Kd.int .u8) 5 w' w.heap.size (fun k_ => some k_ ≠ (.slice (some ad302) t296.length co13 : Value).ownBlock ∧ some k_ ≠ (u7 : Value).ownBlock ∧ k_ ≠ gb299 ∧ k_ ≠ gb301 ∧ k_ ≠ s_.2.2) s_.1 t304) ∧ (Kd.V k45 45 w' w.heap.size (fun k_ => some k_ ≠ (.slice (some ad302) t296.length co13 : Value).ownBlock ∧ some k_ ≠ (u7 : Value).ownBlock ∧ k_ ≠ gb299 ∧ k_ ≠ gb301 ∧ k_ ≠ s_.2.2) s_.2.1 t307) ∧ (Kd.R Kd.anyK 20 w' w.heap.size (fun _ => True) (.slice (some ad302) t296.length co13) t296) ∧ (Kd.N k45 45 w' w.heap.size (fun k_ => some k_ ≠ (.slice (some ad302) t296.length co13 : Value).ownBlock ∧ k_ ≠ gb299 ∧ k_ ≠ gb301 ∧ k_ ≠ s_.2.2) u7 x7_1) ∧ (w'.heap[gb299]? = some (.cells #[.int .u8 t295, .slice (some ad302) t296.length co13] 41 (0, 0))) ∧ (w'.heap[gb301]? = some (.cells #[.int .i64 ((rd_T37 l1 x25_1).f0), .slice A300_1 ((rd_T37 l1 x25_1).f1).length c300_1, .string ((rd_T37 l1 x25_1).f2.f0), .slice A300_3 ((rd_T37 l1 x25_1).f2.f1).length c300_3, .string ((rd_T37 l1 x25_1).f3.f0.f0), .slice A300_5 ((rd_T37 l1 x25_1).f3.f0.f1).length c300_5, .int .i64 ((rd_T37 l1 x25_1).f3.f1)] 37 (0, 0))) ∧ (w'.heap[s_.2.2]? = some (.cells #[.int .u8 0, .slice none 0 0, .slice none 0 0] 45 (0, 0))) ∧ (w.heap.size ≤ s_.2.2) ∧ (w.heap.size ≤ s_.2.2) ∧ (gb299 ≠ s_.2.2) ∧ (s_.2.2 ≠ gb299) ∧ (gb301 ≠ s_.2.2) ∧ (s_.2.2 ≠ gb301) ∧ (Below w.heap.size w w')) ?_ ?_
           rotate_left
           ·intro hCont
            refine two_ (i := 6) (j := 10) (Ni := some 37) (Nj := some 10) #[true, true, true, true, true, true, true, false, false, false, false, false, false] #[true, true, true, true, true, true, false, false, false, false, true, false, false] rfl rfl rfl rfl (two_of HT_.out (by kernel_rfl)) (by decide) (by decide) (fun K hK => ?_) (fun K hK => ?_)
            ·skip
             refine goes_ Tryd.func9 (by kernel_rfl) rfl #[anyV (rd t296 x25_1), .agg #[.int .i64 ((rd_T37 l1 x25_1).f0), .slice A300_1 ((rd_T37 l1 x25_1).f1).length c300_1, .string ((rd_T37 l1 x25_1).f2.f0), .slice A300_3 ((rd_T37 l1 x25_1).f2.f1).length c300_3, .string ((rd_T37 l1 x25_1).f3.f0.f0), .slice A300_5 ((rd_T37 l1 x25_1).f3.f0.f1).length c300_5, .int .i64 ((rd_T37 l1 x25_1).f3.f1)]] (by rfl) rfl rfl (by (try simp only [List.map_toArray, List.map_cons, List.map_nil]); first | done | rfl | (simp only [List.length_drop, List.length_take]; rfl)) ?_
             with_reducible refine (msgs_state.calls (rd t296 x25_1) ((rd_T37 l1 x25_1).f0) _ _ ((rd_T37 l1 x25_1).f1) ((rd_T37 l1 x25_1).f2.f0) _ _ ((rd_T37 l1 x25_1).f2.f1) ((rd_T37 l1 x25_1).f3.f0.f0) _ _ ((rd_T37 l1 x25_1).f3.f0.f1) ((rd_T37 l1 x25_1).f3.f1) t303 t304 t307 true _ ?side1 ?side2 ?side3 ?side4 ?side5 ?side6 A18.out).mono ?_
             (case side1 => repeat (first | exact (Kd.C_below HR300_1.out HB.out) | (with_reducible refine Kd.C_alloc ?_ _) | (with_reducible refine Kd.C_drewN ?_ _) | (with_reducible refine Kd.C_drew ?_)))
             (case side2 => exact HC300_1.out)
             (case side3 => repeat (first | exact (Kd.C_below HR300_3.out HB.out) | (with_reducible refine Kd.C_alloc ?_ _) | (with_reducible refine Kd.C_drewN ?_ _) | (with_reducible refine Kd.C_drew ?_)))
             (case side4 => exact HC300_3.out)
             (case side5 => repeat (first | exact (Kd.C_below HR300_5.out HB.out) | (with_reducible refine Kd.C_alloc ?_ _) | (with_reducible refine Kd.C_drewN ?_ _) | (with_reducible refine Kd.C_drew ?_)))
             (case side6 => exact HC300_5.out)
             rintro e w26 ⟨v305, v308, rfl, ho0, ho1, hb⟩
             have HS9_ := (hb.cell (World.block_lt_of_cell? _ _ (hHeld.2.2.2.2.2.2.2.2.2))).trans (hHeld.2.2.2.2.2.2.2.2.2)
             refine ⟨_, rfl, ?_⟩
             have n0_ := Aside0.mk (Kd.N_below (by (with_reducible repeat (first | apply Kd.N_alloc | apply Kd.N_drewN | apply Kd.N_drew)); exact HO_7.out) hb)
             have n1_ := Aside0.mk (Kd.R_below (by (with_reducible repeat (first | apply Kd.R_alloc | apply Kd.R_drewN | apply Kd.R_drew)); exact HO_300001.out) hb)
             have n2_ := Aside0.mk (Kd.V_lower (Kd.V_mono (ok' := fun k_ => some k_ ≠ (u7 : Value).ownBlock ∧ some k_ ≠ (.slice (some ad302) t296.length co13 : Value).ownBlock ∧ k_ ≠ gb299 ∧ k_ ≠ gb301) ho0 (fun k_ hk_ => ⟨(Kd.fresh' (Kd.N_lt (by (with_reducible repeat (first | apply Kd.N_alloc | apply Kd.N_drewN | apply Kd.N_drew)); exact HO_7.out)) k_ hk_), (Kd.fresh' (Kd.R_lt (by (with_reducible repeat (first | apply Kd.R_alloc | apply Kd.R_drewN | apply Kd.R_drew)); exact HO_300001.out)) k_ hk_), (Kd.freshB (g := gb299) (o := .cells #[.int .u8 t295, .slice (some ad302) t296.length co13] 41 (0, 0)) (by (with_reducible repeat (first | refine blk_drewN ?_ _ | refine blk_drew ?_ | refine blk_alloc ?_ _)); exact BK299.out) k_ hk_), (Kd.freshB (g := gb301) (o := .cells #[.int .i64 ((rd_T37 l1 x25_1).f0), .slice A300_1 ((rd_T37 l1 x25_1).f1).length c300_1, .string ((rd_T37 l1 x25_1).f2.f0), .slice A300_3 ((rd_T37 l1 x25_1).f2.f1).length c300_3, .string ((rd_T37 l1 x25_1).f3.f0.f0), .slice A300_5 ((rd_T37 l1 x25_1).f3.f0.f1).length c300_5, .int .i64 ((rd_T37 l1 x25_1).f3.f1)] 37 (0, 0)) (by (with_reducible repeat (first | refine blk_drewN ?_ _ | refine blk_drew ?_ | refine blk_alloc ?_ _)); exact BK301.out) k_ hk_)⟩)) (below_size (by repeat (first | (with_reducible first | exact HB.out | apply below_alloc | apply pw_below_drewN | apply below_drew1 | refine below_set ?_ GE299.out | refine below_set ?_ GE301.out) | exact HB.out))))
             have n3_ := Aside0.mk (Kd.V_lower (Kd.V_mono (ok' := fun k_ => some k_ ≠ (u7 : Value).ownBlock ∧ some k_ ≠ (.slice (some ad302) t296.length co13 : Value).ownBlock ∧ k_ ≠ gb299 ∧ k_ ≠ gb301) ho1 (fun k_ hk_ => ⟨(Kd.fresh' (Kd.N_lt (by (with_reducible repeat (first | apply Kd.N_alloc | apply Kd.N_drewN | apply Kd.N_drew)); exact HO_7.out)) k_ hk_), (Kd.fresh' (Kd.R_lt (by (with_reducible repeat (first | apply Kd.R_alloc | apply Kd.R_drewN | apply Kd.R_drew)); exact HO_300001.out)) k_ hk_), (Kd.freshB (g := gb299) (o := .cells #[.int .u8 t295, .slice (some ad302) t296.length co13] 41 (0, 0)) (by (with_reducible repeat (first | refine blk_drewN ?_ _ | refine blk_drew ?_ | refine blk_alloc ?_ _)); exact BK299.out) k_ hk_), (Kd.freshB (g := gb301) (o := .cells #[.int .i64 ((rd_T37 l1 x25_1).f0), .slice A300_1 ((rd_T37 l1 x25_1).f1).length c300_1, .string ((rd_T37 l1 x25_1).f2.f0), .slice A300_3 ((rd_T37 l1 x25_1).f2.f1).length c300_3, .string ((rd_T37 l1 x25_1).f3.f0.f0), .slice A300_5 ((rd_T37 l1 x25_1).f3.f0.f1).length c300_5, .int .i64 ((rd_T37 l1 x25_1).f3.f1)] 37 (0, 0)) (by (with_reducible repeat (first | refine blk_drewN ?_ _ | refine blk_drew ?_ | refine blk_alloc ?_ _)); exact BK301.out) k_ hk_)⟩)) (below_size (by repeat (first | (with_reducible first | exact HB.out | apply below_alloc | apply pw_below_drewN | apply below_drew1 | refine below_set ?_ GE299.out | refine below_set ?_ GE301.out) | exact HB.out))))
             have n4_ := Aside0.mk (blk_below (g := gb299) (o := .cells #[.int .u8 t295, .slice (some ad302) t296.length co13] 41 (0, 0)) (by (with_reducible repeat (first | refine blk_drewN ?_ _ | refine blk_drew ?_ | refine blk_alloc ?_ _)); exact BK299.out) hb)
             have n5_ := Aside0.mk (blk_below (g := gb301) (o := .cells #[.int .i64 ((rd_T37 l1 x25_1).f0), .slice A300_1 ((rd_T37 l1 x25_1).f1).length c300_1, .string ((rd_T37 l1 x25_1).f2.f0), .slice A300_3 ((rd_T37 l1 x25_1).f2.f1).length c300_3, .string ((rd_T37 l1 x25_1).f3.f0.f0), .slice A300_5 ((rd_T37 l1 x25_1).f3.f0.f1).length c300_5, .int .i64 ((rd_T37 l1 x25_1).f3.f1)] 37 (0, 0)) (by (with_reducible repeat (first | refine blk_drewN ?_ _ | refine blk_drew ?_ | refine blk_alloc ?_ _)); exact BK301.out) hb)
             have n6_ := Aside0.mk (below_step (by repeat (first | (with_reducible first | exact HB.out | apply below_alloc | apply pw_below_drewN | apply below_drew1 | refine below_set ?_ GE299.out | refine below_set ?_ GE301.out) | exact HB.out)) hb)
             clear HO_7
             clear HO_300001
             clear BK299
             clear BK301
             clear HB
             have HO_7 := n0_
             have HO_300001 := n1_
             have HO306 := n2_
             have HO309 := n3_
             have BK299 := n4_
             have BK301 := n5_
             have HB := n6_
             clear n0_ n1_ n2_ n3_ n4_ n5_ n6_
             (try clear hb)
             (try clear hb2)
             (try clear hk)
             (try clear hi)
             (try clear ho0)
             (try clear ho1)
             refine hK.out _ _ ⟨(blk_cell BK299.out 0).trans rfl, (blk_cell BK299.out 1).trans rfl, (blk_cell BK301.out 0).trans rfl, (blk_cell BK301.out 1).trans rfl, (blk_cell BK301.out 2).trans rfl, (blk_cell BK301.out 3).trans rfl, (blk_cell BK301.out 4).trans rfl, (blk_cell BK301.out 5).trans rfl, (blk_cell BK301.out 6).trans rfl, HS9_⟩ (fun hHeld => ?_)
             clear hK K
             refine norm_ (a' := ?_) ?_ ?_
             rotate_left
             ·show Act.put _ (some 37) _ = _
              simp only [Act.put, List.setIfInBounds_toArray, List.set_cons_zero, List.set_cons_succ, i64_w, i32_w]
              rfl
             refine pure_ (i := 7) (N := some 30) (v := ?_) (a' := ?_) #[true, true, true, true, true, true, true, true, false, false, false, false, false] rfl rfl (any_of HT_.out (by kernel_rfl)) (fun _ _ _ h => h) (Or.inl ⟨by rfl, ?_⟩) ?_ ?_
             rotate_left
             ·intro w'
              go_simp
              with_reducible rfl
             rotate_left
             ·simp only [Act.put, List.setIfInBounds_toArray, List.set_cons_zero, List.set_cons_succ, i64_w, i32_w]
              rfl
             refine pure_ (i := 8) (N := some 38) (v := ?_) (a' := ?_) #[true, true, true, true, true, true, true, true, true, false, false, false, false] rfl rfl (any_of HT_.out (by kernel_rfl)) (fun _ _ _ h => h) (Or.inl ⟨by rfl, ?_⟩) ?_ ?_
             rotate_left
             ·intro w'
              go_simp
              with_reducible rfl
             rotate_left
             ·simp only [Act.put, List.setIfInBounds_toArray, List.set_cons_zero, List.set_cons_succ, i64_w, i32_w]
              rfl
             refine pure_ (i := 9) (N := some 39) (v := ?_) (a' := ?_) #[true, true, true, true, true, true, true, true, true, true, false, false, false] rfl rfl (any_of HT_.out (by kernel_rfl)) (fun _ _ _ h => h) (Or.inl ⟨by rfl, ?_⟩) ?_ ?_
             rotate_left
             ·intro w'
              go_simp
              with_reducible rfl
             rotate_left
             ·simp only [Act.put, List.setIfInBounds_toArray, List.set_cons_zero, List.set_cons_succ, i64_w, i32_w]
              rfl
             refine one_ (i := 10) (N := some 10) #[true, true, true, true, true, true, true, true, true, true, true, false, false] rfl rfl (one_of HT_.out (by kernel_rfl)) (by decide) (fun K hK => ?_)
             refine box_step ?hg (N := 10) ?hd (cs := #[.int .u8 0, .slice none 0 0, .slice none 0 0]) (t := 45) ?hr ?_; (case hd => rfl); (case hg => rfl); (case hr => first | (go_simp; done) | (go_simp; rfl))
             intro gb311 hg w27 hbox hb
             have HS9_ := (hb.cell (World.block_lt_of_cell? _ _ (hHeld.2.2.2.2.2.2.2.2.2))).trans (hHeld.2.2.2.2.2.2.2.2.2)
             have n0_ := Aside0.mk (Kd.N_below (Kd.N_elderB (by (with_reducible repeat (first | apply Kd.N_alloc | apply Kd.N_drewN | apply Kd.N_drew)); exact HO_7.out) gb311 (Nat.le_of_eq hg.symm)) hb)
             have n1_ := Aside0.mk (Kd.R_below (by (with_reducible repeat (first | apply Kd.R_alloc | apply Kd.R_drewN | apply Kd.R_drew)); exact HO_300001.out) hb)
             have n2_ := Aside0.mk (Kd.V_below (Kd.V_elderB (by (with_reducible repeat (first | apply Kd.V_alloc | apply Kd.V_drewN | apply Kd.V_drew)); exact HO306.out) gb311 (Nat.le_of_eq hg.symm)) hb)
             have n3_ := Aside0.mk (Kd.V_below (Kd.V_elderB (by (with_reducible repeat (first | apply Kd.V_alloc | apply Kd.V_drewN | apply Kd.V_drew)); exact HO309.out) gb311 (Nat.le_of_eq hg.symm)) hb)
             have n4_ := Aside0.mk (blk_below (g := gb299) (o := .cells #[.int .u8 t295, .slice (some ad302) t296.length co13] 41 (0, 0)) (by (with_reducible repeat (first | refine blk_drewN ?_ _ | refine blk_drew ?_ | refine blk_alloc ?_ _)); exact BK299.out) hb)
             have n5_ := Aside0.mk (blk_below (g := gb301) (o := .cells #[.int .i64 ((rd_T37 l1 x25_1).f0), .slice A300_1 ((rd_T37 l1 x25_1).f1).length c300_1, .string ((rd_T37 l1 x25_1).f2.f0), .slice A300_3 ((rd_T37 l1 x25_1).f2.f1).length c300_3, .string ((rd_T37 l1 x25_1).f3.f0.f0), .slice A300_5 ((rd_T37 l1 x25_1).f3.f0.f1).length c300_5, .int .i64 ((rd_T37 l1 x25_1).f3.f1)] 37 (0, 0)) (by (with_reducible repeat (first | refine blk_drewN ?_ _ | refine blk_drew ?_ | refine blk_alloc ?_ _)); exact BK301.out) hb)
             have n6_ := Aside0.mk (below_step (by repeat (first | (with_reducible first | exact HB.out | apply below_alloc | apply pw_below_drewN | apply below_drew1 | refine below_set ?_ GE299.out | refine below_set ?_ GE301.out) | exact HB.out)) hb)
             have n7_ := Aside0.mk (hbox)
             have n8_ := Aside0.mk ((by rw [hg]; exact (below_size (by repeat (first | (with_reducible first | exact HB.out | apply below_alloc | apply pw_below_drewN | apply below_drew1 | refine below_set ?_ GE299.out | refine below_set ?_ GE301.out) | exact HB.out))) : w.heap.size ≤ gb311))
             have n9_ := Aside0.mk ((by rw [hg]; exact (below_size (by repeat (first | (with_reducible first | exact HB.out | apply below_alloc | apply pw_below_drewN | apply below_drew1 | refine below_set ?_ GE299.out | refine below_set ?_ GE301.out) | exact HB.out))) : w.heap.size ≤ gb311))
             have n10_ := Aside0.mk ((by rw [hg]; exact Nat.ne_of_lt (blk_lt (g := gb299) (o := .cells #[.int .u8 t295, .slice (some ad302) t296.length co13] 41 (0, 0)) (by (with_reducible repeat (first | refine blk_drewN ?_ _ | refine blk_drew ?_ | refine blk_alloc ?_ _)); exact BK299.out)) : gb299 ≠ gb311))
             have n11_ := Aside0.mk ((by rw [hg]; exact Nat.ne_of_gt (blk_lt (g := gb299) (o := .cells #[.int .u8 t295, .slice (some ad302) t296.length co13] 41 (0, 0)) (by (with_reducible repeat (first | refine blk_drewN ?_ _ | refine blk_drew ?_ | refine blk_alloc ?_ _)); exact BK299.out)) : gb311 ≠ gb299))
             have n12_ := Aside0.mk ((by rw [hg]; exact Nat.ne_of_lt (blk_lt (g := gb301) (o := .cells #[.int .i64 ((rd_T37 l1 x25_1).f0), .slice A300_1 ((rd_T37 l1 x25_1).f1).length c300_1, .string ((rd_T37 l1 x25_1).f2.f0), .slice A300_3 ((rd_T37 l1 x25_1).f2.f1).length c300_3, .string ((rd_T37 l1 x25_1).f3.f0.f0), .slice A300_5 ((rd_T37 l1 x25_1).f3.f0.f1).length c300_5, .int .i64 ((rd_T37 l1 x25_1).f3.f1)] 37 (0, 0)) (by (with_reducible repeat (first | refine blk_drewN ?_ _ | refine blk_drew ?_ | refine blk_alloc ?_ _)); exact BK301.out)) : gb301 ≠ gb311))
             have n13_ := Aside0.mk ((by rw [hg]; exact Nat.ne_of_gt (blk_lt (g := gb301) (o := .cells #[.int .i64 ((rd_T37 l1 x25_1).f0), .slice A300_1 ((rd_T37 l1 x25_1).f1).length c300_1, .string ((rd_T37 l1 x25_1).f2.f0), .slice A300_3 ((rd_T37 l1 x25_1).f2.f1).length c300_3, .string ((rd_T37 l1 x25_1).f3.f0.f0), .slice A300_5 ((rd_T37 l1 x25_1).f3.f0.f1).length c300_5, .int .i64 ((rd_T37 l1 x25_1).f3.f1)] 37 (0, 0)) (by (with_reducible repeat (first | refine blk_drewN ?_ _ | refine blk_drew ?_ | refine blk_alloc ?_ _)); exact BK301.out)) : gb311 ≠ gb301))
             clear HO_7
             clear HO_300001
             clear HO306
             clear HO309
             clear BK299
             clear BK301
             clear HB
             have HO_7 := n0_
             have HO_300001 := n1_
             have HO306 := n2_
             have HO309 := n3_
             have BK299 := n4_
             have BK301 := n5_
             have HB := n6_
             have BK311 := n7_
             have GW311 := n8_
             have GE311 := n9_
             have NB299_311 := n10_
             have NB311_299 := n11_
             have NB301_311 := n12_
             have NB311_301 := n13_
             clear n0_ n1_ n2_ n3_ n4_ n5_ n6_ n7_ n8_ n9_ n10_ n11_ n12_ n13_
             clear hb hbox hg
             refine hK.out _ _ ⟨(blk_cell BK299.out 0).trans rfl, (blk_cell BK299.out 1).trans rfl, (blk_cell BK301.out 0).trans rfl, (blk_cell BK301.out 1).trans rfl, (blk_cell BK301.out 2).trans rfl, (blk_cell BK301.out 3).trans rfl, (blk_cell BK301.out 4).trans rfl, (blk_cell BK301.out 5).trans rfl, (blk_cell BK301.out 6).trans rfl, HS9_⟩ (fun hHeld => ?_)
             clear hK K
             refine norm_ (a' := ?_) ?_ ?_
             rotate_left
             ·show Act.put _ (some 10) _ = _
              simp only [Act.put, List.setIfInBounds_toArray, List.set_cons_zero, List.set_cons_succ, i64_w, i32_w]
              rfl
             exact norm_ (by simp only [putAll, Act.put, List.setIfInBounds_toArray, List.set_cons_zero, List.set_cons_succ]) (hCont (v305, v308, gb311) _ ⟨hHeld, (by (with_reducible repeat (first | apply Kd.V_alloc | apply Kd.V_drewN | apply Kd.V_drew)); exact Kd.V_mono HO306.out (fun _ hk => ⟨hk.1.2.1, ⟨hk.1.1, ⟨hk.1.2.2.1, ⟨hk.1.2.2.2, hk.2⟩⟩⟩⟩)), (by (with_reducible repeat (first | apply Kd.V_alloc | apply Kd.V_drewN | apply Kd.V_drew)); exact Kd.V_mono HO309.out (fun _ hk => ⟨hk.1.2.1, ⟨hk.1.1, ⟨hk.1.2.2.1, ⟨hk.1.2.2.2, hk.2⟩⟩⟩⟩)), (by (with_reducible repeat (first | apply Kd.R_alloc | apply Kd.R_drewN | apply Kd.R_drew)); exact HO_300001.out), (by (with_reducible repeat (first | apply Kd.N_alloc | apply Kd.N_drewN | apply Kd.N_drew)); exact Kd.N_mono HO_7.out (fun _ hk => ⟨hk.1.1, ⟨hk.1.2.1, ⟨hk.1.2.2, hk.2⟩⟩⟩)), (by (with_reducible repeat (first | refine blk_drewN ?_ _ | refine blk_drew ?_ | refine blk_alloc ?_ _)); exact BK299.out), (by (with_reducible repeat (first | refine blk_drewN ?_ _ | refine blk_drew ?_ | refine blk_alloc ?_ _)); exact BK301.out), (by (with_reducible repeat (first | refine blk_drewN ?_ _ | refine blk_drew ?_ | refine blk_alloc ?_ _)); exact BK311.out), GW311.out, GE311.out, NB299_311.out, NB311_299.out, NB301_311.out, NB311_301.out, (by repeat (first | (with_reducible first | exact HB.out | apply below_alloc | apply pw_below_drewN | apply below_drew1 | refine below_set ?_ GE299.out | refine below_set ?_ GE301.out | refine below_set ?_ GE311.out) | exact HB.out))⟩)
            ·skip
             refine box_step ?hg (N := 10) ?hd (cs := #[.int .u8 0, .slice none 0 0, .slice none 0 0]) (t := 45) ?hr ?_; (case hd => rfl); (case hg => rfl); (case hr => first | (go_simp; done) | (go_simp; rfl))
             intro gb311 hg w26 hbox hb
             have HS9_ := (hb.cell (World.block_lt_of_cell? _ _ (hHeld.2.2.2.2.2.2.2.2.2))).trans (hHeld.2.2.2.2.2.2.2.2.2)
             have n0_ := Aside0.mk (Kd.N_below (Kd.N_elderB (by (with_reducible repeat (first | apply Kd.N_alloc | apply Kd.N_drewN | apply Kd.N_drew)); exact HO_7.out) gb311 (Nat.le_of_eq hg.symm)) hb)
             have n1_ := Aside0.mk (Kd.R_below (by (with_reducible repeat (first | apply Kd.R_alloc | apply Kd.R_drewN | apply Kd.R_drew)); exact HO_300001.out) hb)
             have n2_ := Aside0.mk (blk_below (g := gb299) (o := .cells #[.int .u8 t295, .slice (some ad302) t296.length co13] 41 (0, 0)) (by (with_reducible repeat (first | refine blk_drewN ?_ _ | refine blk_drew ?_ | refine blk_alloc ?_ _)); exact BK299.out) hb)
             have n3_ := Aside0.mk (blk_below (g := gb301) (o := .cells #[.int .i64 ((rd_T37 l1 x25_1).f0), .slice A300_1 ((rd_T37 l1 x25_1).f1).length c300_1, .string ((rd_T37 l1 x25_1).f2.f0), .slice A300_3 ((rd_T37 l1 x25_1).f2.f1).length c300_3, .string ((rd_T37 l1 x25_1).f3.f0.f0), .slice A300_5 ((rd_T37 l1 x25_1).f3.f0.f1).length c300_5, .int .i64 ((rd_T37 l1 x25_1).f3.f1)] 37 (0, 0)) (by (with_reducible repeat (first | refine blk_drewN ?_ _ | refine blk_drew ?_ | refine blk_alloc ?_ _)); exact BK301.out) hb)
             have n4_ := Aside0.mk (below_step (by repeat (first | (with_reducible first | exact HB.out | apply below_alloc | apply pw_below_drewN | apply below_drew1 | refine below_set ?_ GE299.out | refine below_set ?_ GE301.out) | exact HB.out)) hb)
             have n5_ := Aside0.mk (hbox)
             have n6_ := Aside0.mk ((by rw [hg]; exact (below_size (by repeat (first | (with_reducible first | exact HB.out | apply below_alloc | apply pw_below_drewN | apply below_drew1 | refine below_set ?_ GE299.out | refine below_set ?_ GE301.out) | exact HB.out))) : w.heap.size ≤ gb311))
             have n7_ := Aside0.mk ((by rw [hg]; exact (below_size (by repeat (first | (with_reducible first | exact HB.out | apply below_alloc | apply pw_below_drewN | apply below_drew1 | refine below_set ?_ GE299.out | refine below_set ?_ GE301.out) | exact HB.out))) : w.heap.size ≤ gb311))
             have n8_ := Aside0.mk ((by rw [hg]; exact Nat.ne_of_lt (blk_lt (g := gb299) (o := .cells #[.int .u8 t295, .slice (some ad302) t296.length co13] 41 (0, 0)) (by (with_reducible repeat (first | refine blk_drewN ?_ _ | refine blk_drew ?_ | refine blk_alloc ?_ _)); exact BK299.out)) : gb299 ≠ gb311))
             have n9_ := Aside0.mk ((by rw [hg]; exact Nat.ne_of_gt (blk_lt (g := gb299) (o := .cells #[.int .u8 t295, .slice (some ad302) t296.length co13] 41 (0, 0)) (by (with_reducible repeat (first | refine blk_drewN ?_ _ | refine blk_drew ?_ | refine blk_alloc ?_ _)); exact BK299.out)) : gb311 ≠ gb299))
             have n10_ := Aside0.mk ((by rw [hg]; exact Nat.ne_of_lt (blk_lt (g := gb301) (o := .cells #[.int .i64 ((rd_T37 l1 x25_1).f0), .slice A300_1 ((rd_T37 l1 x25_1).f1).length c300_1, .string ((rd_T37 l1 x25_1).f2.f0), .slice A300_3 ((rd_T37 l1 x25_1).f2.f1).length c300_3, .string ((rd_T37 l1 x25_1).f3.f0.f0), .slice A300_5 ((rd_T37 l1 x25_1).f3.f0.f1).length c300_5, .int .i64 ((rd_T37 l1 x25_1).f3.f1)] 37 (0, 0)) (by (with_reducible repeat (first | refine blk_drewN ?_ _ | refine blk_drew ?_ | refine blk_alloc ?_ _)); exact BK301.out)) : gb301 ≠ gb311))
             have n11_ := Aside0.mk ((by rw [hg]; exact Nat.ne_of_gt (blk_lt (g := gb301) (o := .cells #[.int .i64 ((rd_T37 l1 x25_1).f0), .slice A300_1 ((rd_T37 l1 x25_1).f1).length c300_1, .string ((rd_T37 l1 x25_1).f2.f0), .slice A300_3 ((rd_T37 l1 x25_1).f2.f1).length c300_3, .string ((rd_T37 l1 x25_1).f3.f0.f0), .slice A300_5 ((rd_T37 l1 x25_1).f3.f0.f1).length c300_5, .int .i64 ((rd_T37 l1 x25_1).f3.f1)] 37 (0, 0)) (by (with_reducible repeat (first | refine blk_drewN ?_ _ | refine blk_drew ?_ | refine blk_alloc ?_ _)); exact BK301.out)) : gb311 ≠ gb301))
             clear HO_7
             clear HO_300001
             clear BK299
             clear BK301
             clear HB
             have HO_7 := n0_
             have HO_300001 := n1_
             have BK299 := n2_
             have BK301 := n3_
             have HB := n4_
             have BK311 := n5_
             have GW311 := n6_
             have GE311 := n7_
             have NB299_311 := n8_
             have NB311_299 := n9_
             have NB301_311 := n10_
             have NB311_301 := n11_
             clear n0_ n1_ n2_ n3_ n4_ n5_ n6_ n7_ n8_ n9_ n10_ n11_
             clear hb hbox hg
             refine hK.out _ _ ⟨(blk_cell BK299.out 0).trans rfl, (blk_cell BK299.out 1).trans rfl, (blk_cell BK301.out 0).trans rfl, (blk_cell BK301.out 1).trans rfl, (blk_cell BK301.out 2).trans rfl, (blk_cell BK301.out 3).trans rfl, (blk_cell BK301.out 4).trans rfl, (blk_cell BK301.out 5).trans rfl, (blk_cell BK301.out 6).trans rfl, HS9_⟩ (fun hHeld => ?_)
             clear hK K
             refine norm_ (a' := ?_) ?_ ?_
             rotate_left
             ·show Act.put _ (some 10) _ = _
              simp only [Act.put, List.setIfInBounds_toArray, List.set_cons_zero, List.set_cons_succ, i64_w, i32_w]
              rfl
             refine one_ (i := 6) (N := some 37) #[true, true, true, true, true, true, true, false, false, false, true, false, false] rfl rfl (one_of HT_.out (by kernel_rfl)) (by decide) (fun K hK => ?_)
             refine goes_ Tryd.func9 (by kernel_rfl) rfl #[anyV (rd t296 x25_1), .agg #[.int .i64 ((rd_T37 l1 x25_1).f0), .slice A300_1 ((rd_T37 l1 x25_1).f1).length c300_1, .string ((rd_T37 l1 x25_1).f2.f0), .slice A300_3 ((rd_T37 l1 x25_1).f2.f1).length c300_3, .string ((rd_T37 l1 x25_1).f3.f0.f0), .slice A300_5 ((rd_T37 l1 x25_1).f3.f0.f1).length c300_5, .int .i64 ((rd_T37 l1 x25_1).f3.f1)]] (by rfl) rfl rfl (by (try simp only [List.map_toArray, List.map_cons, List.map_nil]); first | done | rfl | (simp only [List.length_drop, List.length_take]; rfl)) ?_
             with_reducible refine (msgs_state.calls (rd t296 x25_1) ((rd_T37 l1 x25_1).f0) _ _ ((rd_T37 l1 x25_1).f1) ((rd_T37 l1 x25_1).f2.f0) _ _ ((rd_T37 l1 x25_1).f2.f1) ((rd_T37 l1 x25_1).f3.f0.f0) _ _ ((rd_T37 l1 x25_1).f3.f0.f1) ((rd_T37 l1 x25_1).f3.f1) t303 t304 t307 true _ ?side1 ?side2 ?side3 ?side4 ?side5 ?side6 A18.out).mono ?_
             (case side1 => repeat (first | exact (Kd.C_below HR300_1.out HB.out) | (with_reducible refine Kd.C_alloc ?_ _) | (with_reducible refine Kd.C_drewN ?_ _) | (with_reducible refine Kd.C_drew ?_)))
             (case side2 => exact HC300_1.out)
             (case side3 => repeat (first | exact (Kd.C_below HR300_3.out HB.out) | (with_reducible refine Kd.C_alloc ?_ _) | (with_reducible refine Kd.C_drewN ?_ _) | (with_reducible refine Kd.C_drew ?_)))
             (case side4 => exact HC300_3.out)
             (case side5 => repeat (first | exact (Kd.C_below HR300_5.out HB.out) | (with_reducible refine Kd.C_alloc ?_ _) | (with_reducible refine Kd.C_drewN ?_ _) | (with_reducible refine Kd.C_drew ?_)))
             (case side6 => exact HC300_5.out)
             rintro e w27 ⟨v305, v308, rfl, ho0, ho1, hb⟩
             have HS9_ := (hb.cell (World.block_lt_of_cell? _ _ (hHeld.2.2.2.2.2.2.2.2.2))).trans (hHeld.2.2.2.2.2.2.2.2.2)
             refine ⟨_, rfl, ?_⟩
             have n0_ := Aside0.mk (Kd.N_below (by (with_reducible repeat (first | apply Kd.N_alloc | apply Kd.N_drewN | apply Kd.N_drew)); exact HO_7.out) hb)
             have n1_ := Aside0.mk (Kd.R_below (by (with_reducible repeat (first | apply Kd.R_alloc | apply Kd.R_drewN | apply Kd.R_drew)); exact HO_300001.out) hb)
             have n2_ := Aside0.mk (Kd.V_lower (Kd.V_mono (ok' := fun k_ => some k_ ≠ (u7 : Value).ownBlock ∧ some k_ ≠ (.slice (some ad302) t296.length co13 : Value).ownBlock ∧ k_ ≠ gb299 ∧ k_ ≠ gb301 ∧ k_ ≠ gb311) ho0 (fun k_ hk_ => ⟨(Kd.fresh' (Kd.N_lt (by (with_reducible repeat (first | apply Kd.N_alloc | apply Kd.N_drewN | apply Kd.N_drew)); exact HO_7.out)) k_ hk_), (Kd.fresh' (Kd.R_lt (by (with_reducible repeat (first | apply Kd.R_alloc | apply Kd.R_drewN | apply Kd.R_drew)); exact HO_300001.out)) k_ hk_), (Kd.freshB (g := gb299) (o := .cells #[.int .u8 t295, .slice (some ad302) t296.length co13] 41 (0, 0)) (by (with_reducible repeat (first | refine blk_drewN ?_ _ | refine blk_drew ?_ | refine blk_alloc ?_ _)); exact BK299.out) k_ hk_), (Kd.freshB (g := gb301) (o := .cells #[.int .i64 ((rd_T37 l1 x25_1).f0), .slice A300_1 ((rd_T37 l1 x25_1).f1).length c300_1, .string ((rd_T37 l1 x25_1).f2.f0), .slice A300_3 ((rd_T37 l1 x25_1).f2.f1).length c300_3, .string ((rd_T37 l1 x25_1).f3.f0.f0), .slice A300_5 ((rd_T37 l1 x25_1).f3.f0.f1).length c300_5, .int .i64 ((rd_T37 l1 x25_1).f3.f1)] 37 (0, 0)) (by (with_reducible repeat (first | refine blk_drewN ?_ _ | refine blk_drew ?_ | refine blk_alloc ?_ _)); exact BK301.out) k_ hk_), (Kd.freshB (g := gb311) (o := .cells #[.int .u8 0, .slice none 0 0, .slice none 0 0] 45 (0, 0)) (by (with_reducible repeat (first | refine blk_drewN ?_ _ | refine blk_drew ?_ | refine blk_alloc ?_ _)); exact BK311.out) k_ hk_)⟩)) (below_size (by repeat (first | (with_reducible first | exact HB.out | apply below_alloc | apply pw_below_drewN | apply below_drew1 | refine below_set ?_ GE299.out | refine below_set ?_ GE301.out | refine below_set ?_ GE311.out) | exact HB.out))))
             have n3_ := Aside0.mk (Kd.V_lower (Kd.V_mono (ok' := fun k_ => some k_ ≠ (u7 : Value).ownBlock ∧ some k_ ≠ (.slice (some ad302) t296.length co13 : Value).ownBlock ∧ k_ ≠ gb299 ∧ k_ ≠ gb301 ∧ k_ ≠ gb311) ho1 (fun k_ hk_ => ⟨(Kd.fresh' (Kd.N_lt (by (with_reducible repeat (first | apply Kd.N_alloc | apply Kd.N_drewN | apply Kd.N_drew)); exact HO_7.out)) k_ hk_), (Kd.fresh' (Kd.R_lt (by (with_reducible repeat (first | apply Kd.R_alloc | apply Kd.R_drewN | apply Kd.R_drew)); exact HO_300001.out)) k_ hk_), (Kd.freshB (g := gb299) (o := .cells #[.int .u8 t295, .slice (some ad302) t296.length co13] 41 (0, 0)) (by (with_reducible repeat (first | refine blk_drewN ?_ _ | refine blk_drew ?_ | refine blk_alloc ?_ _)); exact BK299.out) k_ hk_), (Kd.freshB (g := gb301) (o := .cells #[.int .i64 ((rd_T37 l1 x25_1).f0), .slice A300_1 ((rd_T37 l1 x25_1).f1).length c300_1, .string ((rd_T37 l1 x25_1).f2.f0), .slice A300_3 ((rd_T37 l1 x25_1).f2.f1).length c300_3, .string ((rd_T37 l1 x25_1).f3.f0.f0), .slice A300_5 ((rd_T37 l1 x25_1).f3.f0.f1).length c300_5, .int .i64 ((rd_T37 l1 x25_1).f3.f1)] 37 (0, 0)) (by (with_reducible repeat (first | refine blk_drewN ?_ _ | refine blk_drew ?_ | refine blk_alloc ?_ _)); exact BK301.out) k_ hk_), (Kd.freshB (g := gb311) (o := .cells #[.int .u8 0, .slice none 0 0, .slice none 0 0] 45 (0, 0)) (by (with_reducible repeat (first | refine blk_drewN ?_ _ | refine blk_drew ?_ | refine blk_alloc ?_ _)); exact BK311.out) k_ hk_)⟩)) (below_size (by repeat (first | (with_reducible first | exact HB.out | apply below_alloc | apply pw_below_drewN | apply below_drew1 | refine below_set ?_ GE299.out | refine below_set ?_ GE301.out | refine below_set ?_ GE311.out) | exact HB.out))))
             have n4_ := Aside0.mk (blk_below (g := gb299) (o := .cells #[.int .u8 t295, .slice (some ad302) t296.length co13] 41 (0, 0)) (by (with_reducible repeat (first | refine blk_drewN ?_ _ | refine blk_drew ?_ | refine blk_alloc ?_ _)); exact BK299.out) hb)
             have n5_ := Aside0.mk (blk_below (g := gb301) (o := .cells #[.int .i64 ((rd_T37 l1 x25_1).f0), .slice A300_1 ((rd_T37 l1 x25_1).f1).length c300_1, .string ((rd_T37 l1 x25_1).f2.f0), .slice A300_3 ((rd_T37 l1 x25_1).f2.f1).length c300_3, .string ((rd_T37 l1 x25_1).f3.f0.f0), .slice A300_5 ((rd_T37 l1 x25_1).f3.f0.f1).length c300_5, .int .i64 ((rd_T37 l1 x25_1).f3.f1)] 37 (0, 0)) (by (with_reducible repeat (first | refine blk_drewN ?_ _ | refine blk_drew ?_ | refine blk_alloc ?_ _)); exact BK301.out) hb)
             have n6_ := Aside0.mk (blk_below (g := gb311) (o := .cells #[.int .u8 0, .slice none 0 0, .slice none 0 0] 45 (0, 0)) (by (with_reducible repeat (first | refine blk_drewN ?_ _ | refine blk_drew ?_ | refine blk_alloc ?_ _)); exact BK311.out) hb)
             have n7_ := Aside0.mk (below_step (by repeat (first | (with_reducible first | exact HB.out | apply below_alloc | apply pw_below_drewN | apply below_drew1 | refine below_set ?_ GE299.out | refine below_set ?_ GE301.out | refine below_set ?_ GE311.out) | exact HB.out)) hb)
             clear HO_7
             clear HO_300001
             clear BK299
             clear BK301
             clear BK311
             clear HB
             have HO_7 := n0_
             have HO_300001 := n1_
             have HO306 := n2_
             have HO309 := n3_
             have BK299 := n4_
             have BK301 := n5_
             have BK311 := n6_
             have HB := n7_
             clear n0_ n1_ n2_ n3_ n4_ n5_ n6_ n7_
             (try clear hb)
             (try clear hb2)
             (try clear hk)
             (try clear hi)
             (try clear ho0)
             (try clear ho1)
             refine hK.out _ _ ⟨(blk_cell BK299.out 0).trans rfl, (blk_cell BK299.out 1).trans rfl, (blk_cell BK301.out 0).trans rfl, (blk_cell BK301.out 1).trans rfl, (blk_cell BK301.out 2).trans rfl, (blk_cell BK301.out 3).trans rfl, (blk_cell BK301.out 4).trans rfl, (blk_cell BK301.out 5).trans rfl, (blk_cell BK301.out 6).trans rfl, HS9_⟩ (fun hHeld => ?_)
             clear hK K
             refine norm_ (a' := ?_) ?_ ?_
             rotate_left
             ·show Act.put _ (some 37) _ = _
              simp only [Act.put, List.setIfInBounds_toArray, List.set_cons_zero, List.set_cons_succ, i64_w, i32_w]
              rfl
             refine pure_ (i := 7) (N := some 30) (v := ?_) (a' := ?_) #[true, true, true, true, true, true, true, true, false, false, true, false, false] rfl rfl (any_of HT_.out (by kernel_rfl)) (fun _ _ _ h => h) (Or.inl ⟨by rfl, ?_⟩) ?_ ?_
             rotate_left
             ·intro w'
              go_simp
              with_reducible rfl
             rotate_left
             ·simp only [Act.put, List.setIfInBounds_toArray, List.set_cons_zero, List.set_cons_succ, i64_w, i32_w]
              rfl
             refine pure_ (i := 8) (N := some 38) (v := ?_) (a' := ?_) #[true, true, true, true, true, true, true, true, true, false, true, false, false] rfl rfl (any_of HT_.out (by kernel_rfl)) (fun _ _ _ h => h) (Or.inl ⟨by rfl, ?_⟩) ?_ ?_
             rotate_left
             ·intro w'
              go_simp
              with_reducible rfl
             rotate_left
             ·simp only [Act.put, List.setIfInBounds_toArray, List.set_cons_zero, List.set_cons_succ, i64_w, i32_w]
              rfl
             refine pure_ (i := 9) (N := some 39) (v := ?_) (a' := ?_) #[true, true, true, true, true, true, true, true, true, true, true, false, false] rfl rfl (any_of HT_.out (by kernel_rfl)) (fun _ _ _ h => h) (Or.inl ⟨by rfl, ?_⟩) ?_ ?_
             rotate_left
             ·intro w'
              go_simp
              with_reducible rfl
             rotate_left
             ·simp only [Act.put, List.setIfInBounds_toArray, List.set_cons_zero, List.set_cons_succ, i64_w, i32_w]
              rfl
             exact norm_ (by simp only [putAll, Act.put, List.setIfInBounds_toArray, List.set_cons_zero, List.set_cons_succ]) (hCont (v305, v308, gb311) _ ⟨hHeld, (by (with_reducible repeat (first | apply Kd.V_alloc | apply Kd.V_drewN | apply Kd.V_drew)); exact Kd.V_mono HO306.out (fun _ hk => ⟨hk.2.1, ⟨hk.1, ⟨hk.2.2.1, ⟨hk.2.2.2.1, hk.2.2.2.2⟩⟩⟩⟩)), (by (with_reducible repeat (first | apply Kd.V_alloc | apply Kd.V_drewN | apply Kd.V_drew)); exact Kd.V_mono HO309.out (fun _ hk => ⟨hk.2.1, ⟨hk.1, ⟨hk.2.2.1, ⟨hk.2.2.2.1, hk.2.2.2.2⟩⟩⟩⟩)), (by (with_reducible repeat (first | apply Kd.R_alloc | apply Kd.R_drewN | apply Kd.R_drew)); exact HO_300001.out), (by (with_reducible repeat (first | apply Kd.N_alloc | apply Kd.N_drewN | apply Kd.N_drew)); exact Kd.N_mono HO_7.out (fun _ hk => ⟨hk.1.1, ⟨hk.1.2.1, ⟨hk.1.2.2, hk.2⟩⟩⟩)), (by (with_reducible repeat (first | refine blk_drewN ?_ _ | refine blk_drew ?_ | refine blk_alloc ?_ _)); exact BK299.out), (by (with_reducible repeat (first | refine blk_drewN ?_ _ | refine blk_drew ?_ | refine blk_alloc ?_ _)); exact BK301.out), (by (with_reducible repeat (first | refine blk_drewN ?_ _ | refine blk_drew ?_ | refine blk_alloc ?_ _)); exact BK311.out), GW311.out, GE311.out, NB299_311.out, NB311_299.out, NB301_311.out, NB311_301.out, (by repeat (first | (with_reducible first | exact HB.out | apply below_alloc | apply pw_below_drewN | apply below_drew1 | refine below_set ?_ GE299.out | refine below_set ?_ GE301.out | refine below_set ?_ GE311.out) | exact HB.out))⟩)
           rintro ⟨v305, v308, gb311⟩ w28 ⟨hS_, h0_, h1_, h2_, h3_, h4_, h5_, h6_, h7_, h8_, h9_, h10_, h11_, h12_, h13_⟩
           have n0_ : Aside0 (Kd.V (Kd.int .u8) 5 w28 w.heap.size (fun k_ => some k_ ≠ (.slice (some ad302) t296.length co13 : Value).ownBlock ∧ some k_ ≠ (u7 : Value).ownBlock ∧ k_ ≠ gb299 ∧ k_ ≠ gb301 ∧ k_ ≠ gb311) v305 t304) := ⟨h0_⟩
           have n1_ : Aside0 (Kd.V k45 45 w28 w.heap.size (fun k_ => some k_ ≠ (.slice (some ad302) t296.length co13 : Value).ownBlock ∧ some k_ ≠ (u7 : Value).ownBlock ∧ k_ ≠ gb299 ∧ k_ ≠ gb301 ∧ k_ ≠ gb311) v308 t307) := ⟨h1_⟩
           have n2_ : Aside0 (Kd.R Kd.anyK 20 w28 w.heap.size (fun _ => True) (.slice (some ad302) t296.length co13) t296) := ⟨h2_⟩
           have n3_ : Aside0 (Kd.N k45 45 w28 w.heap.size (fun k_ => some k_ ≠ (.slice (some ad302) t296.length co13 : Value).ownBlock ∧ k_ ≠ gb299 ∧ k_ ≠ gb301 ∧ k_ ≠ gb311) u7 x7_1) := ⟨h3_⟩
           have n4_ : Aside0 (w28.heap[gb299]? = some (.cells #[.int .u8 t295, .slice (some ad302) t296.length co13] 41 (0, 0))) := ⟨h4_⟩
           have n5_ : Aside0 (w28.heap[gb301]? = some (.cells #[.int .i64 ((rd_T37 l1 x25_1).f0), .slice A300_1 ((rd_T37 l1 x25_1).f1).length c300_1, .string ((rd_T37 l1 x25_1).f2.f0), .slice A300_3 ((rd_T37 l1 x25_1).f2.f1).length c300_3, .string ((rd_T37 l1 x25_1).f3.f0.f0), .slice A300_5 ((rd_T37 l1 x25_1).f3.f0.f1).length c300_5, .int .i64 ((rd_T37 l1 x25_1).f3.f1)] 37 (0, 0))) := ⟨h5_⟩
           have n6_ : Aside0 (w28.heap[gb311]? = some (.cells #[.int .u8 0, .slice none 0 0, .slice none 0 0] 45 (0, 0))) := ⟨h6_⟩
           have n7_ : Aside0 (w.heap.size ≤ gb311) := ⟨h7_⟩
           have n8_ : Aside0 (w.heap.size ≤ gb311) := ⟨h8_⟩
           have n9_ : Aside0 (gb299 ≠ gb311) := ⟨h9_⟩
           have n10_ : Aside0 (gb311 ≠ gb299) := ⟨h10_⟩
           have n11_ : Aside0 (gb301 ≠ gb311) := ⟨h11_⟩
           have n12_ : Aside0 (gb311 ≠ gb301) := ⟨h12_⟩
           have n13_ : Aside0 (Below w.heap.size w w28) := ⟨h13_⟩
           clear HO_7
           clear HO_300001
           clear BK299
           clear BK301
           clear HB
           clear h0_ h1_ h2_ h3_ h4_ h5_ h6_ h7_ h8_ h9_ h10_ h11_ h12_ h13_
           have HO306 := n0_
           have HO309 := n1_
           have HO_300001 := n2_
           have HO_7 := n3_
           have BK299 := n4_
           have BK301 := n5_
           have BK311 := n6_
           have GW311 := n7_
           have GE311 := n8_
           have NB299_311 := n9_
           have NB311_299 := n10_
           have NB301_311 := n11_
           have NB311_301 := n12_
           have HB := n13_
           clear n0_ n1_ n2_ n3_ n4_ n5_ n6_ n7_ n8_ n9_ n10_ n11_ n12_ n13_
           have hHeld : w28.cell? ⟨gb299, 0, none⟩ = some (.int .u8 t295) ∧ w28.cell? ⟨gb299, 1, none⟩ = some (.slice (some ad302) t296.length co13) ∧ w28.cell? ⟨gb301, 0, none⟩ = some (.int .i64 ((rd_T37 l1 x25_1).f0)) ∧ w28.cell? ⟨gb301, 1, none⟩ = some (.slice A300_1 ((rd_T37 l1 x25_1).f1).length c300_1) ∧ w28.cell? ⟨gb301, 2, none⟩ = some (.string ((rd_T37 l1 x25_1).f2.f0)) ∧ w28.cell? ⟨gb301, 3, none⟩ = some (.slice A300_3 ((rd_T37 l1 x25_1).f2.f1).length c300_3) ∧ w28.cell? ⟨gb301, 4, none⟩ = some (.string ((rd_T37 l1 x25_1).f3.f0.f0)) ∧ w28.cell? ⟨gb301, 5, none⟩ = some (.slice A300_5 ((rd_T37 l1 x25_1).f3.f0.f1).length c300_5) ∧ w28.cell? ⟨gb301, 6, none⟩ = some (.int .i64 ((rd_T37 l1 x25_1).f3.f1)) ∧ w28.cell? (ad302.add (x25_1).toNat) = some (anyV (rd t296 x25_1)) := hS_
           obtain ⟨Ao30, co30, eo30⟩ := Kd.V_slice HO306.out
           (first | subst eo30 | (injection eo30 with f1_ f2_ f3_; have f4_ := f1_.symm; have f5_ := f3_.symm; clear f1_ f2_ f3_; subst f4_; subst f5_))
           obtain ⟨Ao32, co32, eo32⟩ := Kd.V_slice HO309.out
           (first | subst eo32 | (injection eo32 with f1_ f2_ f3_; have f4_ := f1_.symm; have f5_ := f3_.symm; clear f1_ f2_ f3_; subst f4_; subst f5_))
           refine norm_ (a' := ?_) ?_ ?_
           rotate_left
           ·simp only [putAll, Act.put, List.setIfInBounds_toArray, List.set_cons_zero, List.set_cons_succ]
            rfl
           refine one_ (i := 11) (N := none) #[true, true, true, true, true, true, true, true, true, true, true, true, false] rfl rfl (one_of HT_.out (by kernel_rfl)) (by decide) (fun K hK => ?_)
           have hs29 : w28.cell? ⟨gb311, 0, none⟩ = some (.int .u8 0) := (blk_cell BK311.out 0).trans rfl
           have hfs29 := blk_frozen BK311.out 0
           have hns29_0 := NB299_311.out
           have hns29_1 := NB301_311.out
           have hms29_0 := NB311_299.out
           have hms29_1 := NB311_301.out
           have hs31 : w28.cell? ⟨gb311, 1, none⟩ = some (.slice none 0 0) := (blk_cell BK311.out 1).trans rfl
           have hfs31 := blk_frozen BK311.out 1
           have hns31_0 := NB299_311.out
           have hns31_1 := NB301_311.out
           have hms31_0 := NB311_299.out
           have hms31_1 := NB311_301.out
           have hs33 : w28.cell? ⟨gb311, 2, none⟩ = some (.slice none 0 0) := (blk_cell BK311.out 2).trans rfl
           have hfs33 := blk_frozen BK311.out 2
           have hns33_0 := NB299_311.out
           have hns33_1 := NB301_311.out
           have hms33_0 := NB311_299.out
           have hms33_1 := NB311_301.out
           refine skip_ (w1 := ?_) (by rfl) rfl ?_ ?_
           rotate_left
           ·go_simp
            rfl
           refine hK.out _ _ ⟨((cell_far (p := ⟨gb311, _, none⟩) NB299_311.out _).trans (((cell_far (p := ⟨gb311, _, none⟩) NB299_311.out _).trans (((cell_far (p := ⟨gb311, _, none⟩) NB299_311.out _).trans (hHeld.1)))))), ((cell_far (p := ⟨gb311, _, none⟩) NB299_311.out _).trans (((cell_far (p := ⟨gb311, _, none⟩) NB299_311.out _).trans (((cell_far (p := ⟨gb311, _, none⟩) NB299_311.out _).trans (hHeld.2.1)))))), ((cell_far (p := ⟨gb311, _, none⟩) NB301_311.out _).trans (((cell_far (p := ⟨gb311, _, none⟩) NB301_311.out _).trans (((cell_far (p := ⟨gb311, _, none⟩) NB301_311.out _).trans (hHeld.2.2.1)))))), ((cell_far (p := ⟨gb311, _, none⟩) NB301_311.out _).trans (((cell_far (p := ⟨gb311, _, none⟩) NB301_311.out _).trans (((cell_far (p := ⟨gb311, _, none⟩) NB301_311.out _).trans (hHeld.2.2.2.1)))))), ((cell_far (p := ⟨gb311, _, none⟩) NB301_311.out _).trans (((cell_far (p := ⟨gb311, _, none⟩) NB301_311.out _).trans (((cell_far (p := ⟨gb311, _, none⟩) NB301_311.out _).trans (hHeld.2.2.2.2.1)))))), ((cell_far (p := ⟨gb311, _, none⟩) NB301_311.out _).trans (((cell_far (p := ⟨gb311, _, none⟩) NB301_311.out _).trans (((cell_far (p := ⟨gb311, _, none⟩) NB301_311.out _).trans (hHeld.2.2.2.2.2.1)))))), ((cell_far (p := ⟨gb311, _, none⟩) NB301_311.out _).trans (((cell_far (p := ⟨gb311, _, none⟩) NB301_311.out _).trans (((cell_far (p := ⟨gb311, _, none⟩) NB301_311.out _).trans (hHeld.2.2.2.2.2.2.1)))))), ((cell_far (p := ⟨gb311, _, none⟩) NB301_311.out _).trans (((cell_far (p := ⟨gb311, _, none⟩) NB301_311.out _).trans (((cell_far (p := ⟨gb311, _, none⟩) NB301_311.out _).trans (hHeld.2.2.2.2.2.2.2.1)))))), ((cell_far (p := ⟨gb311, _, none⟩) NB301_311.out _).trans (((cell_far (p := ⟨gb311, _, none⟩) NB301_311.out _).trans (((cell_far (p := ⟨gb311, _, none⟩) NB301_311.out _).trans (hHeld.2.2.2.2.2.2.2.2.1)))))), ((cell_far (p := ⟨gb311, _, none⟩) (by first | exact Kd.own_blk (Kd.R_ne HO_300001.out BK311.out (by decide)) | (rw [add_block]; exact Kd.own_blk (Kd.R_ne HO_300001.out BK311.out (by decide))) | (show (Addr.add _ _).block ≠ _; rw [add_block]; exact Kd.own_blk (Kd.R_ne HO_300001.out BK311.out (by decide))) | (dsimp only; exact Kd.own_blk (Kd.R_ne HO_300001.out BK311.out (by decide)))) _).trans (((cell_far (p := ⟨gb311, _, none⟩) (by first | exact Kd.own_blk (Kd.R_ne HO_300001.out BK311.out (by decide)) | (rw [add_block]; exact Kd.own_blk (Kd.R_ne HO_300001.out BK311.out (by decide))) | (show (Addr.add _ _).block ≠ _; rw [add_block]; exact Kd.own_blk (Kd.R_ne HO_300001.out BK311.out (by decide))) | (dsimp only; exact Kd.own_blk (Kd.R_ne HO_300001.out BK311.out (by decide)))) _).trans (((cell_far (p := ⟨gb311, _, none⟩) (by first | exact Kd.own_blk (Kd.R_ne HO_300001.out BK311.out (by decide)) | (rw [add_block]; exact Kd.own_blk (Kd.R_ne HO_300001.out BK311.out (by decide))) | (show (Addr.add _ _).block ≠ _; rw [add_block]; exact Kd.own_blk (Kd.R_ne HO_300001.out BK311.out (by decide))) | (dsimp only; exact Kd.own_blk (Kd.R_ne HO_300001.out BK311.out (by decide)))) _).trans (hHeld.2.2.2.2.2.2.2.2.2))))))⟩ (fun hHeld => ?_)
           clear hK K
           refine pure_ (i := 12) (N := some 11) (v := ?_) (a' := ?_) #[true, true, true, true, true, true, true, true, true, true, true, true, true] rfl rfl (any_of HT_.out (by kernel_rfl)) (fun _ _ _ h => h) (Or.inl ⟨by rfl, ?_⟩) ?_ ?_
           rotate_left
           ·intro w'
            go_simp
            with_reducible rfl
           rotate_left
           ·simp only [Act.put, List.setIfInBounds_toArray, List.set_cons_zero, List.set_cons_succ, i64_w, i32_w]
            rfl
           refine done_ (done_of HT_.out (by kernel_rfl)) ?_
           have n0_ : Aside0 (Kd.N k45 45 (((w28.setCell ⟨gb311, 0, none⟩ (.int .u8 t303)).setCell ⟨gb311, 1, none⟩ (.slice Ao30 t304.length co30)).setCell ⟨gb311, 2, none⟩ (.slice Ao32 t307.length co32)) w.heap.size (fun k_ => some k_ ≠ (.slice (some ad302) t296.length co13 : Value).ownBlock ∧ k_ ≠ gb299 ∧ k_ ≠ gb301 ∧ k_ ≠ gb311) u7 x7_1) := ⟨by (with_reducible repeat (first | apply Kd.N_alloc | apply Kd.N_drewN | apply Kd.N_drew)); exact Kd.N_mono (Kd.N_far (p := ⟨gb311, 2, none⟩) (Kd.N_far (p := ⟨gb311, 1, none⟩) (Kd.N_far (p := ⟨gb311, 0, none⟩) (Kd.N_mono HO_7.out (fun k_ hk => (⟨hk, hk.2.2.2⟩ : _ ∧ k_ ≠ gb311))) (fun _ hk => hk.2) (.int .u8 t303)) (fun _ hk => hk.2) (.slice Ao30 t304.length co30)) (fun _ hk => hk.2) (.slice Ao32 t307.length co32)) (fun _ hk => ⟨hk.1.1, ⟨hk.1.2.1, ⟨hk.1.2.2.1, hk.1.2.2.2⟩⟩⟩)⟩
           have n1_ : Aside0 (Kd.R Kd.anyK 20 (((w28.setCell ⟨gb311, 0, none⟩ (.int .u8 t303)).setCell ⟨gb311, 1, none⟩ (.slice Ao30 t304.length co30)).setCell ⟨gb311, 2, none⟩ (.slice Ao32 t307.length co32)) w.heap.size (fun _ => True) (.slice (some ad302) t296.length co13) t296) := ⟨by (with_reducible repeat (first | apply Kd.R_alloc | apply Kd.R_drewN | apply Kd.R_drew)); exact Kd.R_mono (Kd.R_far (p := ⟨gb311, 2, none⟩) (Kd.R_far (p := ⟨gb311, 1, none⟩) (Kd.R_far (p := ⟨gb311, 0, none⟩) (Kd.R_types HO_300001.out BK311.out (by decide)) (fun _ hk => hk.2) (.int .u8 t303)) (fun _ hk => hk.2) (.slice Ao30 t304.length co30)) (fun _ hk => hk.2) (.slice Ao32 t307.length co32)) (fun _ hk => trivial)⟩
           have n2_ : Aside0 (Kd.V (Kd.int .u8) 5 (((w28.setCell ⟨gb311, 0, none⟩ (.int .u8 t303)).setCell ⟨gb311, 1, none⟩ (.slice Ao30 t304.length co30)).setCell ⟨gb311, 2, none⟩ (.slice Ao32 t307.length co32)) w.heap.size (fun k_ => some k_ ≠ (u7 : Value).ownBlock ∧ some k_ ≠ (.slice (some ad302) t296.length co13 : Value).ownBlock ∧ k_ ≠ gb299 ∧ k_ ≠ gb301 ∧ k_ ≠ gb311) (.slice Ao30 t304.length co30) t304) := ⟨by (with_reducible repeat (first | apply Kd.V_alloc | apply Kd.V_drewN | apply Kd.V_drew)); exact Kd.V_mono (Kd.V_far (p := ⟨gb311, 2, none⟩) (Kd.V_far (p := ⟨gb311, 1, none⟩) (Kd.V_far (p := ⟨gb311, 0, none⟩) (Kd.V_mono HO306.out (fun k_ hk => (⟨hk, hk.2.2.2.2⟩ : _ ∧ k_ ≠ gb311))) (fun _ hk => hk.2) (.int .u8 t303)) (fun _ hk => hk.2) (.slice Ao30 t304.length co30)) (fun _ hk => hk.2) (.slice Ao32 t307.length co32)) (fun _ hk => ⟨hk.1.2.1, ⟨hk.1.1, ⟨hk.1.2.2.1, ⟨hk.1.2.2.2.1, hk.1.2.2.2.2⟩⟩⟩⟩)⟩
           have n3_ : Aside0 (Kd.V k45 45 (((w28.setCell ⟨gb311, 0, none⟩ (.int .u8 t303)).setCell ⟨gb311, 1, none⟩ (.slice Ao30 t304.length co30)).setCell ⟨gb311, 2, none⟩ (.slice Ao32 t307.length co32)) w.heap.size (fun k_ => some k_ ≠ (u7 : Value).ownBlock ∧ some k_ ≠ (.slice (some ad302) t296.length co13 : Value).ownBlock ∧ k_ ≠ gb299 ∧ k_ ≠ gb301 ∧ k_ ≠ gb311) (.slice Ao32 t307.length co32) t307) := ⟨by (with_reducible repeat (first | apply Kd.V_alloc | apply Kd.V_drewN | apply Kd.V_drew)); exact Kd.V_mono (Kd.V_far (p := ⟨gb311, 2, none⟩) (Kd.V_far (p := ⟨gb311, 1, none⟩) (Kd.V_far (p := ⟨gb311, 0, none⟩) (Kd.V_mono HO309.out (fun k_ hk => (⟨hk, hk.2.2.2.2⟩ : _ ∧ k_ ≠ gb311))) (fun _ hk => hk.2) (.int .u8 t303)) (fun _ hk => hk.2) (.slice Ao30 t304.length co30)) (fun _ hk => hk.2) (.slice Ao32 t307.length co32)) (fun _ hk => ⟨hk.1.2.1, ⟨hk.1.1, ⟨hk.1.2.2.1, ⟨hk.1.2.2.2.1, hk.1.2.2.2.2⟩⟩⟩⟩)⟩
           have n4_ : Aside0 ((((w28.setCell ⟨gb311, 0, none⟩ (.int .u8 t303)).setCell ⟨gb311, 1, none⟩ (.slice Ao30 t304.length co30)).setCell ⟨gb311, 2, none⟩ (.slice Ao32 t307.length co32)).heap[gb299]? = some (.cells #[.int .u8 t295, .slice (some ad302) t296.length co13] 41 (0, 0))) := ⟨by (with_reducible repeat (first | refine blk_drewN ?_ _ | refine blk_drew ?_ | refine blk_alloc ?_ _)); refine blk_far ?_ NB299_311.out _; (with_reducible repeat (first | refine blk_drewN ?_ _ | refine blk_drew ?_ | refine blk_alloc ?_ _)); refine blk_far ?_ NB299_311.out _; (with_reducible repeat (first | refine blk_drewN ?_ _ | refine blk_drew ?_ | refine blk_alloc ?_ _)); refine blk_far ?_ NB299_311.out _; (with_reducible repeat (first | refine blk_drewN ?_ _ | refine blk_drew ?_ | refine blk_alloc ?_ _)); exact BK299.out⟩
           have n5_ : Aside0 ((((w28.setCell ⟨gb311, 0, none⟩ (.int .u8 t303)).setCell ⟨gb311, 1, none⟩ (.slice Ao30 t304.length co30)).setCell ⟨gb311, 2, none⟩ (.slice Ao32 t307.length co32)).heap[gb301]? = some (.cells #[.int .i64 ((rd_T37 l1 x25_1).f0), .slice A300_1 ((rd_T37 l1 x25_1).f1).length c300_1, .string ((rd_T37 l1 x25_1).f2.f0), .slice A300_3 ((rd_T37 l1 x25_1).f2.f1).length c300_3, .string ((rd_T37 l1 x25_1).f3.f0.f0), .slice A300_5 ((rd_T37 l1 x25_1).f3.f0.f1).length c300_5, .int .i64 ((rd_T37 l1 x25_1).f3.f1)] 37 (0, 0))) := ⟨by (with_reducible repeat (first | refine blk_drewN ?_ _ | refine blk_drew ?_ | refine blk_alloc ?_ _)); refine blk_far ?_ NB301_311.out _; (with_reducible repeat (first | refine blk_drewN ?_ _ | refine blk_drew ?_ | refine blk_alloc ?_ _)); refine blk_far ?_ NB301_311.out _; (with_reducible repeat (first | refine blk_drewN ?_ _ | refine blk_drew ?_ | refine blk_alloc ?_ _)); refine blk_far ?_ NB301_311.out _; (with_reducible repeat (first | refine blk_drewN ?_ _ | refine blk_drew ?_ | refine blk_alloc ?_ _)); exact BK301.out⟩
           have n6_ : Aside0 ((((w28.setCell ⟨gb311, 0, none⟩ (.int .u8 t303)).setCell ⟨gb311, 1, none⟩ (.slice Ao30 t304.length co30)).setCell ⟨gb311, 2, none⟩ (.slice Ao32 t307.length co32)).heap[gb311]? = some (.cells #[.int .u8 t303, .slice Ao30 t304.length co30, .slice Ao32 t307.length co32] 45 (0, 0))) := ⟨by (with_reducible repeat (first | refine blk_drewN ?_ _ | refine blk_drew ?_ | refine blk_alloc ?_ _)); refine blk_put (cs := #[.int .u8 t303, .slice Ao30 t304.length co30, .slice none 0 0]) ?_ 2 _ rfl; (with_reducible repeat (first | refine blk_drewN ?_ _ | refine blk_drew ?_ | refine blk_alloc ?_ _)); refine blk_put (cs := #[.int .u8 t303, .slice none 0 0, .slice none 0 0]) ?_ 1 _ rfl; (with_reducible repeat (first | refine blk_drewN ?_ _ | refine blk_drew ?_ | refine blk_alloc ?_ _)); refine blk_put (cs := #[.int .u8 0, .slice none 0 0, .slice none 0 0]) ?_ 0 _ rfl; (with_reducible repeat (first | refine blk_drewN ?_ _ | refine blk_drew ?_ | refine blk_alloc ?_ _)); exact BK311.out⟩
           have n7_ : Aside0 (Below w.heap.size w (((w28.setCell ⟨gb311, 0, none⟩ (.int .u8 t303)).setCell ⟨gb311, 1, none⟩ (.slice Ao30 t304.length co30)).setCell ⟨gb311, 2, none⟩ (.slice Ao32 t307.length co32))) := ⟨by repeat (first | (with_reducible first | exact HB.out | apply below_alloc | apply pw_below_drewN | apply below_drew1 | refine below_set ?_ GE299.out | refine below_set ?_ GE301.out | refine below_set ?_ GE311.out) | exact HB.out)⟩
           (try clear HO_7)
           (try clear HO_300001)
           (try clear HO306)
           (try clear HO309)
           (try clear BK299)
           (try clear BK301)
           (try clear BK311)
           (try clear HB)
           generalize (((w28.setCell ⟨gb311, 0, none⟩ (.int .u8 t303)).setCell ⟨gb311, 1, none⟩ (.slice Ao30 t304.length co30)).setCell ⟨gb311, 2, none⟩ (.slice Ao32 t307.length co32)) = w34 at n0_ n1_ n2_ n3_ n4_ n5_ n6_ n7_ ⊢
           have HO_7 := n0_
           have HO_300001 := n1_
           have HO306 := n2_
           have HO309 := n3_
           have BK299 := n4_
           have BK301 := n5_
           have BK311 := n6_
           have HB := n7_
           clear n0_ n1_ n2_ n3_ n4_ n5_ n6_ n7_
           have hnb35 := NB311_299.out
           have hnc35 := NB299_311.out
           have hnb36 := NB311_301.out
           have hnc36 := NB301_311.out
           have hcz37_0 : w34.cell? ⟨gb311, 0, none⟩ = some (.int .u8 t303) := (blk_cell BK311.out 0).trans rfl
           have hcz37_1 : w34.cell? ⟨gb311, 1, none⟩ = some (.slice Ao30 t304.length co30) := (blk_cell BK311.out 1).trans rfl
           have hcz37_2 : w34.cell? ⟨gb311, 2, none⟩ = some (.slice Ao32 t307.length co32) := (blk_cell BK311.out 2).trans rfl
           have hfz37_0 := blk_frozen BK311.out 0
           have hfz37_1 := blk_frozen BK311.out 1
           have hfz37_2 := blk_frozen BK311.out 2
           try go_wp2_with (first | ((with_reducible refine gate_builtin (b := .append) (xs := #[.tmp 42, .tmp 44]) rfl ?_); at_builtin; refine Kd.N_append k45 (w0 := w) w.heap.size rfl (.tmp 42) (.tmp 44) 43 45 (.agg #[(.int .u8 0), (.slice none 0 0), (.slice none 0 0)]) 56 rfl Tryd.underlying43 info45 rfl (by decide) (by omega) u7 x7_1 (⟨t303, t304, t307⟩ : S45) [.int .u8 t303, .slice Ao30 t304.length co30, .slice Ao32 t307.length co32] (fun k_ => some k_ ≠ (.slice (some ad302) t296.length co13 : Value).ownBlock ∧ k_ ≠ gb299 ∧ k_ ≠ gb301 ∧ k_ ≠ gb311) (fun k_ => ((fun k_ => some k_ ≠ (.slice (some ad302) t296.length co13 : Value).ownBlock ∧ k_ ≠ gb299 ∧ k_ ≠ gb301 ∧ k_ ≠ gb311)) k_ ∧ some k_ ≠ (u7 : Value).ownBlock) rfl rfl ?aP (fun _ hk => hk) ?aF ?aO ?aB ?aS ?aL ?_; (case aP => exact (k45_mkF _ _ (⟨t303, t304, t307⟩ : S45) (Kd.V_reads' (Kd.V_mono (ok' := (fun k_ => ((fun k_ => some k_ ≠ (.slice (some ad302) t296.length co13 : Value).ownBlock ∧ k_ ≠ gb299 ∧ k_ ≠ gb301 ∧ k_ ≠ gb311)) k_ ∧ some k_ ≠ (u7 : Value).ownBlock)) (HO306.out) (fun k_ hk => ⟨⟨hk.2.1, ⟨hk.2.2.1, ⟨hk.2.2.2.1, hk.2.2.2.2⟩⟩⟩, hk.1⟩))).2.1 (Kd.V_F (Kd.V_mono (ok' := (fun k_ => ((fun k_ => some k_ ≠ (.slice (some ad302) t296.length co13 : Value).ownBlock ∧ k_ ≠ gb299 ∧ k_ ≠ gb301 ∧ k_ ≠ gb311)) k_ ∧ some k_ ≠ (u7 : Value).ownBlock)) (HO306.out) (fun k_ hk => ⟨⟨hk.2.1, ⟨hk.2.2.1, ⟨hk.2.2.2.1, hk.2.2.2.2⟩⟩⟩, hk.1⟩))) (Kd.V_reads' (Kd.V_mono (ok' := (fun k_ => ((fun k_ => some k_ ≠ (.slice (some ad302) t296.length co13 : Value).ownBlock ∧ k_ ≠ gb299 ∧ k_ ≠ gb301 ∧ k_ ≠ gb311)) k_ ∧ some k_ ≠ (u7 : Value).ownBlock)) (HO309.out) (fun k_ hk => ⟨⟨hk.2.1, ⟨hk.2.2.1, ⟨hk.2.2.2.1, hk.2.2.2.2⟩⟩⟩, hk.1⟩))).2.1 (Kd.V_F (Kd.V_mono (ok' := (fun k_ => ((fun k_ => some k_ ≠ (.slice (some ad302) t296.length co13 : Value).ownBlock ∧ k_ ≠ gb299 ∧ k_ ≠ gb301 ∧ k_ ≠ gb311)) k_ ∧ some k_ ≠ (u7 : Value).ownBlock)) (HO309.out) (fun k_ hk => ⟨⟨hk.2.1, ⟨hk.2.2.1, ⟨hk.2.2.2.1, hk.2.2.2.2⟩⟩⟩, hk.1⟩))))); (case aB => exact (by repeat (first | (with_reducible first | exact HB.out | apply below_alloc | apply pw_below_drewN | apply below_drew1 | refine below_set ?_ GE299.out | refine below_set ?_ GE301.out | refine below_set ?_ GE311.out) | exact HB.out))); (case aF => exact (fun k_ hk => ⟨Kd.fresh' (Kd.R_lt (by (with_reducible repeat (first | apply Kd.R_alloc | apply Kd.R_drewN | apply Kd.R_drew)); exact HO_300001.out)) k_ hk, Kd.freshB (g := gb299) (o := .cells #[.int .u8 t295, .slice (some ad302) t296.length co13] 41 (0, 0)) (by (with_reducible repeat (first | refine blk_drewN ?_ _ | refine blk_drew ?_ | refine blk_alloc ?_ _)); exact BK299.out) k_ hk, Kd.freshB (g := gb301) (o := .cells #[.int .i64 ((rd_T37 l1 x25_1).f0), .slice A300_1 ((rd_T37 l1 x25_1).f1).length c300_1, .string ((rd_T37 l1 x25_1).f2.f0), .slice A300_3 ((rd_T37 l1 x25_1).f2.f1).length c300_3, .string ((rd_T37 l1 x25_1).f3.f0.f0), .slice A300_5 ((rd_T37 l1 x25_1).f3.f0.f1).length c300_5, .int .i64 ((rd_T37 l1 x25_1).f3.f1)] 37 (0, 0)) (by (with_reducible repeat (first | refine blk_drewN ?_ _ | refine blk_drew ?_ | refine blk_alloc ?_ _)); exact BK301.out) k_ hk, Kd.freshB (g := gb311) (o := .cells #[.int .u8 t303, .slice Ao30 t304.length co30, .slice Ao32 t307.length co32] 45 (0, 0)) (by (with_reducible repeat (first | refine blk_drewN ?_ _ | refine blk_drew ?_ | refine blk_alloc ?_ _)); exact BK311.out) k_ hk⟩)); (case aO => exact (by (with_reducible repeat (first | apply Kd.N_alloc | apply Kd.N_drewN | apply Kd.N_drew)); exact HO_7.out)); (case aS => exact (below_size (by repeat (first | (with_reducible first | exact HB.out | apply below_alloc | apply pw_below_drewN | apply below_drew1 | refine below_set ?_ GE299.out | refine below_set ?_ GE301.out | refine below_set ?_ GE311.out) | exact HB.out)))); (case aL => have := LMc20.out; omega); intro v313 w38 ho hb hg hat; rw [← Ny312.out] at ho; have n0_ := Aside0.mk (Kd.R_over' (by (with_reducible repeat (first | apply Kd.R_alloc | apply Kd.R_drewN | apply Kd.R_drew)); exact HO_300001.out) (Kd.N_typed (by (with_reducible repeat (first | apply Kd.N_alloc | apply Kd.N_drewN | apply Kd.N_drew)); exact HO_7.out)) (by decide) hg); have n1_ := Aside0.mk (blk_grown (g := gb299) (o := .cells #[.int .u8 t295, .slice (some ad302) t296.length co13] 41 (0, 0)) (by (with_reducible repeat (first | refine blk_drewN ?_ _ | refine blk_drew ?_ | refine blk_alloc ?_ _)); exact BK299.out) hg (Kd.N_ne HO_7.out BK299.out (by decide))); have n2_ := Aside0.mk (blk_grown (g := gb301) (o := .cells #[.int .i64 ((rd_T37 l1 x25_1).f0), .slice A300_1 ((rd_T37 l1 x25_1).f1).length c300_1, .string ((rd_T37 l1 x25_1).f2.f0), .slice A300_3 ((rd_T37 l1 x25_1).f2.f1).length c300_3, .string ((rd_T37 l1 x25_1).f3.f0.f0), .slice A300_5 ((rd_T37 l1 x25_1).f3.f0.f1).length c300_5, .int .i64 ((rd_T37 l1 x25_1).f3.f1)] 37 (0, 0)) (by (with_reducible repeat (first | refine blk_drewN ?_ _ | refine blk_drew ?_ | refine blk_alloc ?_ _)); exact BK301.out) hg (Kd.N_ne HO_7.out BK301.out (by decide))); have n3_ := Aside0.mk (Kd.V_afterv (ok := (fun k_ => some k_ ≠ (.slice (some ad302) t296.length co13 : Value).ownBlock ∧ k_ ≠ gb299 ∧ k_ ≠ gb301 ∧ k_ ≠ gb311)) (by (with_reducible repeat (first | apply Kd.V_alloc | apply Kd.V_drewN | apply Kd.V_drew)); exact Kd.V_mono HO306.out (fun _ hk => ⟨⟨hk.2.1, ⟨hk.2.2.1, ⟨hk.2.2.2.1, hk.2.2.2.2⟩⟩⟩, hk.1⟩)) hg hat); have n4_ := Aside0.mk (Kd.V_afterv (ok := (fun k_ => some k_ ≠ (.slice (some ad302) t296.length co13 : Value).ownBlock ∧ k_ ≠ gb299 ∧ k_ ≠ gb301 ∧ k_ ≠ gb311)) (by (with_reducible repeat (first | apply Kd.V_alloc | apply Kd.V_drewN | apply Kd.V_drew)); exact Kd.V_mono HO309.out (fun _ hk => ⟨⟨hk.2.1, ⟨hk.2.2.1, ⟨hk.2.2.2.1, hk.2.2.2.2⟩⟩⟩, hk.1⟩)) hg hat); have n5_ := Aside0.mk (blk_grown (g := gb311) (o := .cells #[.int .u8 t303, .slice Ao30 t304.length co30, .slice Ao32 t307.length co32] 45 (0, 0)) (by (with_reducible repeat (first | refine blk_drewN ?_ _ | refine blk_drew ?_ | refine blk_alloc ?_ _)); exact BK311.out) hg (Kd.N_away HO_7.out (fun _ hk => hk.2.2.2))); have n6_ := Aside0.mk (hb); have n7_ := Aside0.mk (ho); clear HO_300001; clear BK299; clear BK301; clear HO306; clear HO309; clear BK311; clear HB; clear HO_7; have HO_300001 := n0_; have BK299 := n1_; have BK301 := n2_; have HO306 := n3_; have HO309 := n4_; have BK311 := n5_; have HB := n6_; have HO314 := n7_; clear n0_ n1_ n2_ n3_ n4_ n5_ n6_ n7_; clear ho hb hg hat))
           go_roundg k1
           case measure => have := HK1.out; omega
           case rel => exact ⟨(y312), (wrap64 (x25_1 + 1)), (by first | rfl | (simp; done) | (simp [*]; done)), H', ⟨by have := HK1.out; omega⟩, ⟨by (with_reducible repeat (first | apply Kd.N_alloc | apply Kd.N_drewN | apply Kd.N_drew)); exact Kd.N_mono HO314.out (fun _ hk => ⟨hk.1, hk.2.1⟩)⟩, ⟨by (with_reducible repeat (first | apply Kd.R_alloc | apply Kd.R_drewN | apply Kd.R_drew)); exact HO_300001.out⟩, ⟨by (with_reducible repeat (first | refine blk_drewN ?_ _ | refine blk_drew ?_ | refine blk_alloc ?_ _)); exact BK299.out⟩, ⟨by repeat (first | (with_reducible first | exact HB.out | apply below_alloc | apply pw_below_drewN | apply below_drew1 | refine below_set ?_ GE299.out | refine below_set ?_ GE301.out | refine below_set ?_ GE311.out) | exact HB.out)⟩⟩
          ·rw [if_neg c20] at H
           exact absurd H (by simp)
         ·replace c19 := Bool.eq_false_iff.mpr c19
          subst c19
          have H1 : (some (([] : List Int), 181)) = some (r1, r2) := by rw [if_neg (show ¬ (false = true) by decide)] at H; exact H
          clear H
          have H := H1
          clear H1
          simp only [Option.some.injEq, Prod.mk.injEq] at H
          obtain ⟨rfl, rfl⟩ := H
          have p300 : 0 ≤ (x25_1 : Int) := of_decide_eq_true (by first | (with_reducible assumption) | assumption)
          have q300 : x25_1 < (l1.length : Int) := of_decide_eq_true (by first | (with_reducible assumption) | assumption)
          obtain ⟨ad300, A300_1, c300_1, A300_3, c300_3, A300_5, c300_5, e300, hx300_0, hx300_1, hx300_2, hx300_3, hx300_4, hx300_5, hx300_6, hl300_1, hi300_1, hl300_3, hi300_3, hl300_5, hi300_5⟩ := at_T37 HR1.out x25_1 p300 q300
          cases e300
          replace hx300_0 := (HB.out.cell (World.block_lt_of_cell? w _ hx300_0)).trans hx300_0
          replace hx300_1 := (HB.out.cell (World.block_lt_of_cell? w _ hx300_1)).trans hx300_1
          replace hx300_2 := (HB.out.cell (World.block_lt_of_cell? w _ hx300_2)).trans hx300_2
          replace hx300_3 := (HB.out.cell (World.block_lt_of_cell? w _ hx300_3)).trans hx300_3
          replace hx300_4 := (HB.out.cell (World.block_lt_of_cell? w _ hx300_4)).trans hx300_4
          replace hx300_5 := (HB.out.cell (World.block_lt_of_cell? w _ hx300_5)).trans hx300_5
          replace hx300_6 := (HB.out.cell (World.block_lt_of_cell? w _ hx300_6)).trans hx300_6
          have HR300_1 := Aside0.mk hi300_1
          have HC300_1 := Aside0.mk hl300_1
          clear hi300_1 hl300_1
          have HR300_3 := Aside0.mk hi300_3
          have HC300_3 := Aside0.mk hl300_3
          clear hi300_3 hl300_3
          have HR300_5 := Aside0.mk hi300_5
          have HC300_5 := Aside0.mk hl300_5
          clear hi300_5 hl300_5
          replace p300 := eq_true p300
          replace q300 := eq_true q300
          try go_wp2_with (first | ((with_reducible refine gate_dst (N := 9) rfl ?_); refine box_event ?hg (N := 9) ?hd (cs := #[.int .i64 0, .slice none 0 0, .string (⟨#[]⟩ : ByteArray), .slice none 0 0, .string (⟨#[]⟩ : ByteArray), .slice none 0 0, .int .i64 0]) (t := 37) ?hr ?_; (case hd => rfl); (case hg => rfl); (case hr => first | (go_simp; done) | (go_simp; rfl)); intro gb301 hg w39 hbox hb; have n0_ := Aside0.mk (Kd.N_below (Kd.N_elderB (by (with_reducible repeat (first | apply Kd.N_alloc | apply Kd.N_drewN | apply Kd.N_drew)); exact HO_7.out) gb301 (Nat.le_of_eq hg.symm)) hb); have n1_ := Aside0.mk (Kd.R_below (by (with_reducible repeat (first | apply Kd.R_alloc | apply Kd.R_drewN | apply Kd.R_drew)); exact HO_300001.out) hb); have n2_ := Aside0.mk (blk_below (g := gb299) (o := .cells #[.int .u8 t295, .slice Ao13 t296.length co13] 41 (0, 0)) (by (with_reducible repeat (first | refine blk_drewN ?_ _ | refine blk_drew ?_ | refine blk_alloc ?_ _)); exact BK299.out) hb); have n3_ := Aside0.mk (below_step (by repeat (first | (with_reducible first | exact HB.out | apply below_alloc | apply pw_below_drewN | apply below_drew1 | refine below_set ?_ GE299.out) | exact HB.out)) hb); have n4_ := Aside0.mk (hbox); have n5_ := Aside0.mk ((by rw [hg]; exact (below_size (by repeat (first | (with_reducible first | exact HB.out | apply below_alloc | apply pw_below_drewN | apply below_drew1 | refine below_set ?_ GE299.out) | exact HB.out))) : w.heap.size ≤ gb301)); have n6_ := Aside0.mk ((by rw [hg]; exact (below_size (by repeat (first | (with_reducible first | exact HB.out | apply below_alloc | apply pw_below_drewN | apply below_drew1 | refine below_set ?_ GE299.out) | exact HB.out))) : w.heap.size ≤ gb301)); have n7_ := Aside0.mk ((by rw [hg]; exact Nat.ne_of_lt (blk_lt (g := gb299) (o := .cells #[.int .u8 t295, .slice Ao13 t296.length co13] 41 (0, 0)) (by (with_reducible repeat (first | refine blk_drewN ?_ _ | refine blk_drew ?_ | refine blk_alloc ?_ _)); exact BK299.out)) : gb299 ≠ gb301)); have n8_ := Aside0.mk ((by rw [hg]; exact Nat.ne_of_gt (blk_lt (g := gb299) (o := .cells #[.int .u8 t295, .slice Ao13 t296.length co13] 41 (0, 0)) (by (with_reducible repeat (first | refine blk_drewN ?_ _ | refine blk_drew ?_ | refine blk_alloc ?_ _)); exact BK299.out)) : gb301 ≠ gb299)); clear HO_7; clear HO_300001; clear BK299; clear HB; have HO_7 := n0_; have HO_300001 := n1_; have BK299 := n2_; have HB := n3_; have BK301 := n4_; have GW301 := n5_; have GE301 := n6_; have NB299_301 := n7_; have NB301_299 := n8_; clear n0_ n1_ n2_ n3_ n4_ n5_ n6_ n7_ n8_; clear hb hbox hg; have hnb40 := NB301_299.out; have hnc40 := NB299_301.out; have hcz41_0 : w39.cell? ⟨gb301, 0, none⟩ = some (.int .i64 0) := (blk_cell BK301.out 0).trans rfl; have hcz41_1 : w39.cell? ⟨gb301, 1, none⟩ = some (.slice none 0 0) := (blk_cell BK301.out 1).trans rfl; have hcz41_2 : w39.cell? ⟨gb301, 2, none⟩ = some (.string (⟨#[]⟩ : ByteArray)) := (blk_cell BK301.out 2).trans rfl; have hcz41_3 : w39.cell? ⟨gb301, 3, none⟩ = some (.slice none 0 0) := (blk_cell BK301.out 3).trans rfl; have hcz41_4 : w39.cell? ⟨gb301, 4, none⟩ = some (.string (⟨#[]⟩ : ByteArray)) := (blk_cell BK301.out 4).trans rfl; have hcz41_5 : w39.cell? ⟨gb301, 5, none⟩ = some (.slice none 0 0) := (blk_cell BK301.out 5).trans rfl; have hcz41_6 : w39.cell? ⟨gb301, 6, none⟩ = some (.int .i64 0) := (blk_cell BK301.out 6).trans rfl; have hfz41_0 := blk_frozen BK301.out 0; have hfz41_1 := blk_frozen BK301.out 1; have hfz41_2 := blk_frozen BK301.out 2; have hfz41_3 := blk_frozen BK301.out 3; have hfz41_4 := blk_frozen BK301.out 4; have hfz41_5 := blk_frozen BK301.out 5; have hfz41_6 := blk_frozen BK301.out 6))
          have n0_ : Aside0 (Kd.N k45 45 (((((((w39.setCell ⟨gb301, 0, none⟩ (.int .i64 ((rd_T37 l1 x25_1).f0))).setCell ⟨gb301, 1, none⟩ (.slice A300_1 ((rd_T37 l1 x25_1).f1).length c300_1)).setCell ⟨gb301, 2, none⟩ (.string ((rd_T37 l1 x25_1).f2.f0))).setCell ⟨gb301, 3, none⟩ (.slice A300_3 ((rd_T37 l1 x25_1).f2.f1).length c300_3)).setCell ⟨gb301, 4, none⟩ (.string ((rd_T37 l1 x25_1).f3.f0.f0))).setCell ⟨gb301, 5, none⟩ (.slice A300_5 ((rd_T37 l1 x25_1).f3.f0.f1).length c300_5)).setCell ⟨gb301, 6, none⟩ (.int .i64 ((rd_T37 l1 x25_1).f3.f1))) w.heap.size (fun k_ => some k_ ≠ (.slice Ao13 t296.length co13 : Value).ownBlock ∧ k_ ≠ gb299 ∧ k_ ≠ gb301) u7 x7_1) := ⟨by (with_reducible repeat (first | apply Kd.N_alloc | apply Kd.N_drewN | apply Kd.N_drew)); exact Kd.N_mono (Kd.N_far (p := ⟨gb301, 6, none⟩) (Kd.N_far (p := ⟨gb301, 5, none⟩) (Kd.N_far (p := ⟨gb301, 4, none⟩) (Kd.N_far (p := ⟨gb301, 3, none⟩) (Kd.N_far (p := ⟨gb301, 2, none⟩) (Kd.N_far (p := ⟨gb301, 1, none⟩) (Kd.N_far (p := ⟨gb301, 0, none⟩) (Kd.N_mono HO_7.out (fun k_ hk => (⟨hk, hk.2⟩ : _ ∧ k_ ≠ gb301))) (fun _ hk => hk.2) (.int .i64 ((rd_T37 l1 x25_1).f0))) (fun _ hk => hk.2) (.slice A300_1 ((rd_T37 l1 x25_1).f1).length c300_1)) (fun _ hk => hk.2) (.string ((rd_T37 l1 x25_1).f2.f0))) (fun _ hk => hk.2) (.slice A300_3 ((rd_T37 l1 x25_1).f2.f1).length c300_3)) (fun _ hk => hk.2) (.string ((rd_T37 l1 x25_1).f3.f0.f0))) (fun _ hk => hk.2) (.slice A300_5 ((rd_T37 l1 x25_1).f3.f0.f1).length c300_5)) (fun _ hk => hk.2) (.int .i64 ((rd_T37 l1 x25_1).f3.f1))) (fun _ hk => ⟨hk.1.1.1, ⟨hk.1.1.2, hk.1.2⟩⟩)⟩
          have n1_ : Aside0 (Kd.R Kd.anyK 20 (((((((w39.setCell ⟨gb301, 0, none⟩ (.int .i64 ((rd_T37 l1 x25_1).f0))).setCell ⟨gb301, 1, none⟩ (.slice A300_1 ((rd_T37 l1 x25_1).f1).length c300_1)).setCell ⟨gb301, 2, none⟩ (.string ((rd_T37 l1 x25_1).f2.f0))).setCell ⟨gb301, 3, none⟩ (.slice A300_3 ((rd_T37 l1 x25_1).f2.f1).length c300_3)).setCell ⟨gb301, 4, none⟩ (.string ((rd_T37 l1 x25_1).f3.f0.f0))).setCell ⟨gb301, 5, none⟩ (.slice A300_5 ((rd_T37 l1 x25_1).f3.f0.f1).length c300_5)).setCell ⟨gb301, 6, none⟩ (.int .i64 ((rd_T37 l1 x25_1).f3.f1))) w.heap.size (fun _ => True) (.slice Ao13 t296.length co13) t296) := ⟨by (with_reducible repeat (first | apply Kd.R_alloc | apply Kd.R_drewN | apply Kd.R_drew)); exact Kd.R_mono (Kd.R_far (p := ⟨gb301, 6, none⟩) (Kd.R_far (p := ⟨gb301, 5, none⟩) (Kd.R_far (p := ⟨gb301, 4, none⟩) (Kd.R_far (p := ⟨gb301, 3, none⟩) (Kd.R_far (p := ⟨gb301, 2, none⟩) (Kd.R_far (p := ⟨gb301, 1, none⟩) (Kd.R_far (p := ⟨gb301, 0, none⟩) (Kd.R_types HO_300001.out BK301.out (by decide)) (fun _ hk => hk.2) (.int .i64 ((rd_T37 l1 x25_1).f0))) (fun _ hk => hk.2) (.slice A300_1 ((rd_T37 l1 x25_1).f1).length c300_1)) (fun _ hk => hk.2) (.string ((rd_T37 l1 x25_1).f2.f0))) (fun _ hk => hk.2) (.slice A300_3 ((rd_T37 l1 x25_1).f2.f1).length c300_3)) (fun _ hk => hk.2) (.string ((rd_T37 l1 x25_1).f3.f0.f0))) (fun _ hk => hk.2) (.slice A300_5 ((rd_T37 l1 x25_1).f3.f0.f1).length c300_5)) (fun _ hk => hk.2) (.int .i64 ((rd_T37 l1 x25_1).f3.f1))) (fun _ hk => trivial)⟩
          have n2_ : Aside0 ((((((((w39.setCell ⟨gb301, 0, none⟩ (.int .i64 ((rd_T37 l1 x25_1).f0))).setCell ⟨gb301, 1, none⟩ (.slice A300_1 ((rd_T37 l1 x25_1).f1).length c300_1)).setCell ⟨gb301, 2, none⟩ (.string ((rd_T37 l1 x25_1).f2.f0))).setCell ⟨gb301, 3, none⟩ (.slice A300_3 ((rd_T37 l1 x25_1).f2.f1).length c300_3)).setCell ⟨gb301, 4, none⟩ (.string ((rd_T37 l1 x25_1).f3.f0.f0))).setCell ⟨gb301, 5, none⟩ (.slice A300_5 ((rd_T37 l1 x25_1).f3.f0.f1).length c300_5)).setCell ⟨gb301, 6, none⟩ (.int .i64 ((rd_T37 l1 x25_1).f3.f1))).heap[gb299]? = some (.cells #[.int .u8 t295, .slice Ao13 t296.length co13] 41 (0, 0))) := ⟨by (with_reducible repeat (first | refine blk_drewN ?_ _ | refine blk_drew ?_ | refine blk_alloc ?_ _)); refine blk_far ?_ NB299_301.out _; (with_reducible repeat (first | refine blk_drewN ?_ _ | refine blk_drew ?_ | refine blk_alloc ?_ _)); refine blk_far ?_ NB299_301.out _; (with_reducible repeat (first | refine blk_drewN ?_ _ | refine blk_drew ?_ | refine blk_alloc ?_ _)); refine blk_far ?_ NB299_301.out _; (with_reducible repeat (first | refine blk_drewN ?_ _ | refine blk_drew ?_ | refine blk_alloc ?_ _)); refine blk_far ?_ NB299_301.out _; (with_reducible repeat (first | refine blk_drewN ?_ _ | refine blk_drew ?_ | refine blk_alloc ?_ _)); refine blk_far ?_ NB299_301.out _; (with_reducible repeat (first | refine blk_drewN ?_ _ | refine blk_drew ?_ | refine blk_alloc ?_ _)); refine blk_far ?_ NB299_301.out _; (with_reducible repeat (first | refine blk_drewN ?_ _ | refine blk_drew ?_ | refine blk_alloc ?_ _)); refine blk_far ?_ NB299_301.out _; (with_reducible repeat (first | refine blk_drewN ?_ _ | refine blk_drew ?_ | refine blk_alloc ?_ _)); exact BK299.out⟩
          have n3_ : Aside0 ((((((((w39.setCell ⟨gb301, 0, none⟩ (.int .i64 ((rd_T37 l1 x25_1).f0))).setCell ⟨gb301, 1, none⟩ (.slice A300_1 ((rd_T37 l1 x25_1).f1).length c300_1)).setCell ⟨gb301, 2, none⟩ (.string ((rd_T37 l1 x25_1).f2.f0))).setCell ⟨gb301, 3, none⟩ (.slice A300_3 ((rd_T37 l1 x25_1).f2.f1).length c300_3)).setCell ⟨gb301, 4, none⟩ (.string ((rd_T37 l1 x25_1).f3.f0.f0))).setCell ⟨gb301, 5, none⟩ (.slice A300_5 ((rd_T37 l1 x25_1).f3.f0.f1).length c300_5)).setCell ⟨gb301, 6, none⟩ (.int .i64 ((rd_T37 l1 x25_1).f3.f1))).heap[gb301]? = some (.cells #[.int .i64 ((rd_T37 l1 x25_1).f0), .slice A300_1 ((rd_T37 l1 x25_1).f1).length c300_1, .string ((rd_T37 l1 x25_1).f2.f0), .slice A300_3 ((rd_T37 l1 x25_1).f2.f1).length c300_3, .string ((rd_T37 l1 x25_1).f3.f0.f0), .slice A300_5 ((rd_T37 l1 x25_1).f3.f0.f1).length c300_5, .int .i64 ((rd_T37 l1 x25_1).f3.f1)] 37 (0, 0))) := ⟨by (with_reducible repeat (first | refine blk_drewN ?_ _ | refine blk_drew ?_ | refine blk_alloc ?_ _)); refine blk_put (cs := #[.int .i64 ((rd_T37 l1 x25_1).f0), .slice A300_1 ((rd_T37 l1 x25_1).f1).length c300_1, .string ((rd_T37 l1 x25_1).f2.f0), .slice A300_3 ((rd_T37 l1 x25_1).f2.f1).length c300_3, .string ((rd_T37 l1 x25_1).f3.f0.f0), .slice A300_5 ((rd_T37 l1 x25_1).f3.f0.f1).length c300_5, .int .i64 0]) ?_ 6 _ rfl; (with_reducible repeat (first | refine blk_drewN ?_ _ | refine blk_drew ?_ | refine blk_alloc ?_ _)); refine blk_put (cs := #[.int .i64 ((rd_T37 l1 x25_1).f0), .slice A300_1 ((rd_T37 l1 x25_1).f1).length c300_1, .string ((rd_T37 l1 x25_1).f2.f0), .slice A300_3 ((rd_T37 l1 x25_1).f2.f1).length c300_3, .string ((rd_T37 l1 x25_1).f3.f0.f0), .slice none 0 0, .int .i64 0]) ?_ 5 _ rfl; (with_reducible repeat (first | refine blk_drewN ?_ _ | refine blk_drew ?_ | refine blk_alloc ?_ _)); refine blk_put (cs := #[.int .i64 ((rd_T37 l1 x25_1).f0), .slice A300_1 ((rd_T37 l1 x25_1).f1).length c300_1, .string ((rd_T37 l1 x25_1).f2.f0), .slice A300_3 ((rd_T37 l1 x25_1).f2.f1).length c300_3, .string (⟨#[]⟩ : ByteArray), .slice none 0 0, .int .i64 0]) ?_ 4 _ rfl; (with_reducible repeat (first | refine blk_drewN ?_ _ | refine blk_drew ?_ | refine blk_alloc ?_ _)); refine blk_put (cs := #[.int .i64 ((rd_T37 l1 x25_1).f0), .slice A300_1 ((rd_T37 l1 x25_1).f1).length c300_1, .string ((rd_T37 l1 x25_1).f2.f0), .slice none 0 0, .string (⟨#[]⟩ : ByteArray), .slice none 0 0, .int .i64 0]) ?_ 3 _ rfl; (with_reducible repeat (first | refine blk_drewN ?_ _ | refine blk_drew ?_ | refine blk_alloc ?_ _)); refine blk_put (cs := #[.int .i64 ((rd_T37 l1 x25_1).f0), .slice A300_1 ((rd_T37 l1 x25_1).f1).length c300_1, .string (⟨#[]⟩ : ByteArray), .slice none 0 0, .string (⟨#[]⟩ : ByteArray), .slice none 0 0, .int .i64 0]) ?_ 2 _ rfl; (with_reducible repeat (first | refine blk_drewN ?_ _ | refine blk_drew ?_ | refine blk_alloc ?_ _)); refine blk_put (cs := #[.int .i64 ((rd_T37 l1 x25_1).f0), .slice none 0 0, .string (⟨#[]⟩ : ByteArray), .slice none 0 0, .string (⟨#[]⟩ : ByteArray), .slice none 0 0, .int .i64 0]) ?_ 1 _ rfl; (with_reducible repeat (first | refine blk_drewN ?_ _ | refine blk_drew ?_ | refine blk_alloc ?_ _)); refine blk_put (cs := #[.int .i64 0, .slice none 0 0, .string (⟨#[]⟩ : ByteArray), .slice none 0 0, .string (⟨#[]⟩ : ByteArray), .slice none 0 0, .int .i64 0]) ?_ 0 _ rfl; (with_reducible repeat (first | refine blk_drewN ?_ _ | refine blk_drew ?_ | refine blk_alloc ?_ _)); exact BK301.out⟩
          have n4_ : Aside0 (Below w.heap.size w (((((((w39.setCell ⟨gb301, 0, none⟩ (.int .i64 ((rd_T37 l1 x25_1).f0))).setCell ⟨gb301, 1, none⟩ (.slice A300_1 ((rd_T37 l1 x25_1).f1).length c300_1)).setCell ⟨gb301, 2, none⟩ (.string ((rd_T37 l1 x25_1).f2.f0))).setCell ⟨gb301, 3, none⟩ (.slice A300_3 ((rd_T37 l1 x25_1).f2.f1).length c300_3)).setCell ⟨gb301, 4, none⟩ (.string ((rd_T37 l1 x25_1).f3.f0.f0))).setCell ⟨gb301, 5, none⟩ (.slice A300_5 ((rd_T37 l1 x25_1).f3.f0.f1).length c300_5)).setCell ⟨gb301, 6, none⟩ (.int .i64 ((rd_T37 l1 x25_1).f3.f1)))) := ⟨by repeat (first | (with_reducible first | exact HB.out | apply below_alloc | apply pw_below_drewN | apply below_drew1 | refine below_set ?_ GE299.out | refine below_set ?_ GE301.out) | exact HB.out)⟩
          (try clear HO_7)
          (try clear HO_300001)
          (try clear BK299)
          (try clear BK301)
          (try clear HB)
          generalize (((((((w39.setCell ⟨gb301, 0, none⟩ (.int .i64 ((rd_T37 l1 x25_1).f0))).setCell ⟨gb301, 1, none⟩ (.slice A300_1 ((rd_T37 l1 x25_1).f1).length c300_1)).setCell ⟨gb301, 2, none⟩ (.string ((rd_T37 l1 x25_1).f2.f0))).setCell ⟨gb301, 3, none⟩ (.slice A300_3 ((rd_T37 l1 x25_1).f2.f1).length c300_3)).setCell ⟨gb301, 4, none⟩ (.string ((rd_T37 l1 x25_1).f3.f0.f0))).setCell ⟨gb301, 5, none⟩ (.slice A300_5 ((rd_T37 l1 x25_1).f3.f0.f1).length c300_5)).setCell ⟨gb301, 6, none⟩ (.int .i64 ((rd_T37 l1 x25_1).f3.f1))) = w42 at n0_ n1_ n2_ n3_ n4_ ⊢
          have HO_7 := n0_
          have HO_300001 := n1_
          have BK299 := n2_
          have BK301 := n3_
          have HB := n4_
          clear n0_ n1_ n2_ n3_ n4_
          have n0_ := Aside0.mk (Kd.N_drew HO_7.out)
          have n1_ := Aside0.mk (Kd.R_drew HO_300001.out)
          have n2_ := Aside0.mk (blk_drew BK299.out)
          have n3_ := Aside0.mk (blk_drew BK301.out)
          have n4_ := Aside0.mk (below_drew1 HB.out)
          clear HO_7
          clear HO_300001
          clear BK299
          clear BK301
          clear HB
          have HO_7 := n0_
          have HO_300001 := n1_
          have BK299 := n2_
          have BK301 := n3_
          have HB := n4_
          clear n0_ n1_ n2_ n3_ n4_
          have p302 : 0 ≤ (x25_1 : Int) := of_decide_eq_true (by first | (with_reducible assumption) | assumption)
          have q302 : x25_1 < (t296.length : Int) := of_decide_eq_true (by first | (with_reducible assumption) | assumption)
          obtain ⟨ad302, e302, hx302_0⟩ := Kd.at_any (Kd.R_reads' HO_300001.out).2.2 x25_1 p302 q302
          cases e302
          replace p302 := eq_true p302
          replace q302 := eq_true q302
          refine start_ (n := 13) (S := fun w' => w'.cell? ⟨gb299, 0, none⟩ = some (.int .u8 t295) ∧ w'.cell? ⟨gb299, 1, none⟩ = some (.slice (some ad302) t296.length co13) ∧ w'.cell? ⟨gb301, 0, none⟩ = some (.int .i64 ((rd_T37 l1 x25_1).f0)) ∧ w'.cell? ⟨gb301, 1, none⟩ = some (.slice A300_1 ((rd_T37 l1 x25_1).f1).length c300_1) ∧ w'.cell? ⟨gb301, 2, none⟩ = some (.string ((rd_T37 l1 x25_1).f2.f0)) ∧ w'.cell? ⟨gb301, 3, none⟩ = some (.slice A300_3 ((rd_T37 l1 x25_1).f2.f1).length c300_3) ∧ w'.cell? ⟨gb301, 4, none⟩ = some (.string ((rd_T37 l1 x25_1).f3.f0.f0)) ∧ w'.cell? ⟨gb301, 5, none⟩ = some (.slice A300_5 ((rd_T37 l1 x25_1).f3.f0.f1).length c300_5) ∧ w'.cell? ⟨gb301, 6, none⟩ = some (.int .i64 ((rd_T37 l1 x25_1).f3.f1)) ∧ w'.cell? (ad302.add (x25_1).toNat) = some (anyV (rd t296 x25_1))) (ds := []) #[false, false, false, false, false, false, false, false, false, false, false, false, false] (by kernel_rfl) rfl rfl ⟨(blk_cell BK299.out 0).trans rfl, (blk_cell BK299.out 1).trans rfl, (blk_cell BK301.out 0).trans rfl, (blk_cell BK301.out 1).trans rfl, (blk_cell BK301.out 2).trans rfl, (blk_cell BK301.out 3).trans rfl, (blk_cell BK301.out 4).trans rfl, (blk_cell BK301.out 5).trans rfl, (blk_cell BK301.out 6).trans rfl, hx302_0⟩ (fun hHeld => ?_); refine with_tabW msgs_Put.tab10 msgs_Put.bits10 (fun HT_ HW_ => ?_)
          generalize w42.drew = w43 at HO_7 HO_300001 BK299 BK301 HB hx302_0 hHeld ⊢
          refine pure_ (i := 0) (N := some 31) (v := ?_) (a' := ?_) #[true, false, false, false, false, false, false, false, false, false, false, false, false] rfl rfl (any_of HT_.out (by kernel_rfl)) (fun _ _ _ h => h) (Or.inl ⟨by rfl, ?_⟩) ?_ ?_
          rotate_left
          ·intro w'
           go_simp
           with_reducible rfl
          rotate_left
          ·simp only [Act.put, List.setIfInBounds_toArray, List.set_cons_zero, List.set_cons_succ, i64_w, i32_w]
           rfl
          refine pure_ (i := 2) (N := some 33) (v := ?_) (a' := ?_) #[true, false, true, false, false, false, false, false, false, false, false, false, false] rfl rfl (any_of HT_.out (by kernel_rfl)) (fun _ _ _ h => h) (Or.inl ⟨by rfl, ?_⟩) ?_ ?_
          rotate_left
          ·intro w'
           go_simp
           with_reducible rfl
          rotate_left
          ·simp only [Act.put, List.setIfInBounds_toArray, List.set_cons_zero, List.set_cons_succ, i64_w, i32_w]
           rfl
          refine take_ (i := 1) (N := some 32) (v := ?_) (a' := ?_) #[true, true, true, false, false, false, false, false, false, false, false, false, false] rfl rfl (take_ofW HT_.out HW_.out (by kernel_rfl)) (fun _ _ _ h => h) (Or.inl ⟨by rfl, ?_⟩) hHeld ?_ ?_
          rotate_left
          ·rintro w' ⟨s0, s1, s2, s3, s4, s5, s6, s7, s8, s9⟩
           go_simp
           with_reducible rfl
          rotate_left
          ·simp only [Act.put, List.setIfInBounds_toArray, List.set_cons_zero, List.set_cons_succ, i64_w, i32_w]
           rfl
          refine pure_ (i := 3) (N := some 34) (v := ?_) (a' := ?_) #[true, true, true, true, false, false, false, false, false, false, false, false, false] rfl rfl (any_of HT_.out (by kernel_rfl)) (fun _ _ _ h => h) (Or.inl ⟨by rfl, ?_⟩) ?_ ?_
          rotate_left
          ·intro w'
           go_simp
           with_reducible rfl
          rotate_left
          ·simp only [Act.put, List.setIfInBounds_toArray, List.set_cons_zero, List.set_cons_succ, i64_w, i32_w]
           rfl
          refine take_ (i := 4) (N := some 35) (v := ?_) (a' := ?_) #[true, true, true, true, true, false, false, false, false, false, false, false, false] rfl rfl (take_ofW HT_.out HW_.out (by kernel_rfl)) (fun _ _ _ h => h) (Or.inl ⟨by rfl, ?_⟩) hHeld ?_ ?_
          rotate_left
          ·rintro w' ⟨s0, s1, s2, s3, s4, s5, s6, s7, s8, s9⟩
           go_simp
           with_reducible rfl
          rotate_left
          ·simp only [Act.put, List.setIfInBounds_toArray, List.set_cons_zero, List.set_cons_succ, i64_w, i32_w]
           rfl
          refine take_ (i := 5) (N := some 36) (v := ?_) (a' := ?_) #[true, true, true, true, true, true, false, false, false, false, false, false, false] rfl rfl (take_ofW HT_.out HW_.out (by kernel_rfl)) (fun _ _ _ h => h) (Or.inl ⟨by rfl, ?_⟩) hHeld ?_ ?_
          rotate_left
          ·rintro w' ⟨s0, s1, s2, s3, s4, s5, s6, s7, s8, s9⟩
           go_simp
           with_reducible rfl
          rotate_left
          ·simp only [Act.put, List.setIfInBounds_toArray, List.set_cons_zero, List.set_cons_succ, i64_w, i32_w]
           rfl
          refine join_ (σ := Value × Value × Nat) 2 #[true, true, true, true, true, true, true, true, true, true, true, false, false] (fun s_ => [(37, .tuple #[.agg #[.int .u8 t303, s_.1, s_.2.1], .bool false]), (10, .pointer (some ⟨s_.2.2, 0, none⟩)), (30, .tuple #[.agg #[.int .u8 t303, s_.1, s_.2.1], .bool false]), (38, .agg #[.int .u8 t303, s_.1, s_.2.1]), (39, .bool false)]) (fun s_ w' => (w'.cell? ⟨gb299, 0, none⟩ = some (.int .u8 t295) ∧ w'.cell? ⟨gb299, 1, none⟩ = some (.slice (some ad302) t296.length co13) ∧ w'.cell? ⟨gb301, 0, none⟩ = some (.int .i64 ((rd_T37 l1 x25_1).f0)) ∧ w'.cell? ⟨gb301, 1, none⟩ = some (.slice A300_1 ((rd_T37 l1 x25_1).f1).length c300_1) ∧ w'.cell? ⟨gb301, 2, none⟩ = some (.string ((rd_T37 l1 x25_1).f2.f0)) ∧ w'.cell? ⟨gb301, 3, none⟩ = some (.slice A300_3 ((rd_T37 l1 x25_1).f2.f1).length c300_3) ∧ w'.cell? ⟨gb301, 4, none⟩ = some (.string ((rd_T37 l1 x25_1).f3.f0.f0)) ∧ w'.cell? ⟨gb301, 5, none⟩ = some (.slice A300_5 ((rd_T37 l1 x25_1).f3.f0.f1).length c300_5) ∧ w'.cell? ⟨gb301, 6, none⟩ = some (.int .i64 ((rd_T37 l1 x25_1).f3.f1)) ∧ w'.cell? (ad302.add (x25_1).toNat) = some (anyV (rd t296 x25_1))) ∧ (Kd.V (Kd.int .u8) 5 w' w.heap.size (fun k_ => some k_ ≠ (.slice (some ad302) t296.length co13 : Value).ownBlock ∧ some k_ ≠ (u7 : Value).ownBlock ∧ k_ ≠ gb299 ∧ k_ ≠ gb301 ∧ k_ ≠ s_.2.2) s_.1 t304) ∧ (Kd.V k45 45 w' w.heap.size (fun k_ => some k_ ≠ (.slice (some ad302) t296.length co13 : Value).ownBlock ∧ some k_ ≠ (u7 : Value).ownBlock ∧ k_ ≠ gb299 ∧ k_ ≠ gb301 ∧ k_ ≠ s_.2.2) s_.2.1 t307) ∧ (Kd.R Kd.anyK 20 w' w.heap.size (fun _ => True) (.slice (some ad302) t296.length co13) t296) ∧ (Kd.N k45 45 w' w.heap.size (fun k_ => some k_ ≠ (.slice (some ad302) t296.length co13 : Value).ownBlock ∧ k_ ≠ gb299 ∧ k_ ≠ gb301 ∧ k_ ≠ s_.2.2) u7 x7_1) ∧ (w'.heap[gb299]? = some (.cells #[.int .u8 t295, .slice (some ad302) t296.length co13] 41 (0, 0))) ∧ (w'.heap[gb301]? = some (.cells #[.int .i64 ((rd_T37 l1 x25_1).f0), .slice A300_1 ((rd_T37 l1 x25_1).f1).length c300_1, .string ((rd_T37 l1 x25_1).f2.f0), .slice A300_3 ((rd_T37 l1 x25_1).f2.f1).length c300_3, .string ((rd_T37 l1 x25_1).f3.f0.f0), .slice A300_5 ((rd_T37 l1 x25_1).f3.f0.f1).length c300_5, .int .i64 ((rd_T37 l1 x25_1).f3.f1)] 37 (0, 0))) ∧ (w'.heap[s_.2.2]? = some (.cells #[.int .u8 0, .slice none 0 0, .slice none 0 0] 45 (0, 0))) ∧ (w.heap.size ≤ s_.2.2) ∧ (w.heap.size ≤ s_.2.2) ∧ (gb299 ≠ s_.2.2) ∧ (s_.2.2 ≠ gb299) ∧ (gb301 ≠ s_.2.2) ∧ (s_.2.2 ≠ gb301) ∧ (Below w.heap.size w w')) ?_ ?_
          rotate_left
          ·intro hCont
           refine two_ (i := 6) (j := 10) (Ni := some 37) (Nj := some 10) #[true, true, true, true, true, true, true, false, false, false, false, false, false] #[true, true, true, true, true, true, false, false, false, false, true, false, false] rfl rfl rfl rfl (two_of HT_.out (by kernel_rfl)) (by decide) (by decide) (fun K hK => ?_) (fun K hK => ?_)
           ·skip
            refine goes_ Tryd.func9 (by kernel_rfl) rfl #[anyV (rd t296 x25_1), .agg #[.int .i64 ((rd_T37 l1 x25_1).f0), .slice A300_1 ((rd_T37 l1 x25_1).f1).length c300_1, .string ((rd_T37 l1 x25_1).f2.f0), .slice A300_3 ((rd_T37 l1 x25_1).f2.f1).length c300_3, .string ((rd_T37 l1 x25_1).f3.f0.f0), .slice A300_5 ((rd_T37 l1 x25_1).f3.f0.f1).length c300_5, .int .i64 ((rd_T37 l1 x25_1).f3.f1)]] (by rfl) rfl rfl (by (try simp only [List.map_toArray, List.map_cons, List.map_nil]); first | done | rfl | (simp only [List.length_drop, List.length_take]; rfl)) ?_
            with_reducible refine (msgs_state.calls (rd t296 x25_1) ((rd_T37 l1 x25_1).f0) _ _ ((rd_T37 l1 x25_1).f1) ((rd_T37 l1 x25_1).f2.f0) _ _ ((rd_T37 l1 x25_1).f2.f1) ((rd_T37 l1 x25_1).f3.f0.f0) _ _ ((rd_T37 l1 x25_1).f3.f0.f1) ((rd_T37 l1 x25_1).f3.f1) t303 t304 t307 false _ ?side1 ?side2 ?side3 ?side4 ?side5 ?side6 A18.out).mono ?_
            (case side1 => repeat (first | exact (Kd.C_below HR300_1.out HB.out) | (with_reducible refine Kd.C_alloc ?_ _) | (with_reducible refine Kd.C_drewN ?_ _) | (with_reducible refine Kd.C_drew ?_)))
            (case side2 => exact HC300_1.out)
            (case side3 => repeat (first | exact (Kd.C_below HR300_3.out HB.out) | (with_reducible refine Kd.C_alloc ?_ _) | (with_reducible refine Kd.C_drewN ?_ _) | (with_reducible refine Kd.C_drew ?_)))
            (case side4 => exact HC300_3.out)
            (case side5 => repeat (first | exact (Kd.C_below HR300_5.out HB.out) | (with_reducible refine Kd.C_alloc ?_ _) | (with_reducible refine Kd.C_drewN ?_ _) | (with_reducible refine Kd.C_drew ?_)))
            (case side6 => exact HC300_5.out)
            rintro e w44 ⟨v305, v308, rfl, ho0, ho1, hb⟩
            have HS9_ := (hb.cell (World.block_lt_of_cell? _ _ (hHeld.2.2.2.2.2.2.2.2.2))).trans (hHeld.2.2.2.2.2.2.2.2.2)
            refine ⟨_, rfl, ?_⟩
            have n0_ := Aside0.mk (Kd.N_below (by (with_reducible repeat (first | apply Kd.N_alloc | apply Kd.N_drewN | apply Kd.N_drew)); exact HO_7.out) hb)
            have n1_ := Aside0.mk (Kd.R_below (by (with_reducible repeat (first | apply Kd.R_alloc | apply Kd.R_drewN | apply Kd.R_drew)); exact HO_300001.out) hb)
            have n2_ := Aside0.mk (Kd.V_lower (Kd.V_mono (ok' := fun k_ => some k_ ≠ (u7 : Value).ownBlock ∧ some k_ ≠ (.slice (some ad302) t296.length co13 : Value).ownBlock ∧ k_ ≠ gb299 ∧ k_ ≠ gb301) ho0 (fun k_ hk_ => ⟨(Kd.fresh' (Kd.N_lt (by (with_reducible repeat (first | apply Kd.N_alloc | apply Kd.N_drewN | apply Kd.N_drew)); exact HO_7.out)) k_ hk_), (Kd.fresh' (Kd.R_lt (by (with_reducible repeat (first | apply Kd.R_alloc | apply Kd.R_drewN | apply Kd.R_drew)); exact HO_300001.out)) k_ hk_), (Kd.freshB (g := gb299) (o := .cells #[.int .u8 t295, .slice (some ad302) t296.length co13] 41 (0, 0)) (by (with_reducible repeat (first | refine blk_drewN ?_ _ | refine blk_drew ?_ | refine blk_alloc ?_ _)); exact BK299.out) k_ hk_), (Kd.freshB (g := gb301) (o := .cells #[.int .i64 ((rd_T37 l1 x25_1).f0), .slice A300_1 ((rd_T37 l1 x25_1).f1).length c300_1, .string ((rd_T37 l1 x25_1).f2.f0), .slice A300_3 ((rd_T37 l1 x25_1).f2.f1).length c300_3, .string ((rd_T37 l1 x25_1).f3.f0.f0), .slice A300_5 ((rd_T37 l1 x25_1).f3.f0.f1).length c300_5, .int .i64 ((rd_T37 l1 x25_1).f3.f1)] 37 (0, 0)) (by (with_reducible repeat (first | refine blk_drewN ?_ _ | refine blk_drew ?_ | refine blk_alloc ?_ _)); exact BK301.out) k_ hk_)⟩)) (below_size (by repeat (first | (with_reducible first | exact HB.out | apply below_alloc | apply pw_below_drewN | apply below_drew1 | refine below_set ?_ GE299.out | refine below_set ?_ GE301.out) | exact HB.out))))
            have n3_ := Aside0.mk (Kd.V_lower (Kd.V_mono (ok' := fun k_ => some k_ ≠ (u7 : Value).ownBlock ∧ some k_ ≠ (.slice (some ad302) t296.length co13 : Value).ownBlock ∧ k_ ≠ gb299 ∧ k_ ≠ gb301) ho1 (fun k_ hk_ => ⟨(Kd.fresh' (Kd.N_lt (by (with_reducible repeat (first | apply Kd.N_alloc | apply Kd.N_drewN | apply Kd.N_drew)); exact HO_7.out)) k_ hk_), (Kd.fresh' (Kd.R_lt (by (with_reducible repeat (first | apply Kd.R_alloc | apply Kd.R_drewN | apply Kd.R_drew)); exact HO_300001.out)) k_ hk_), (Kd.freshB (g := gb299) (o := .cells #[.int .u8 t295, .slice (some ad302) t296.length co13] 41 (0, 0)) (by (with_reducible repeat (first | refine blk_drewN ?_ _ | refine blk_drew ?_ | refine blk_alloc ?_ _)); exact BK299.out) k_ hk_), (Kd.freshB (g := gb301) (o := .cells #[.int .i64 ((rd_T37 l1 x25_1).f0), .slice A300_1 ((rd_T37 l1 x25_1).f1).length c300_1, .string ((rd_T37 l1 x25_1).f2.f0), .slice A300_3 ((rd_T37 l1 x25_1).f2.f1).length c300_3, .string ((rd_T37 l1 x25_1).f3.f0.f0), .slice A300_5 ((rd_T37 l1 x25_1).f3.f0.f1).length c300_5, .int .i64 ((rd_T37 l1 x25_1).f3.f1)] 37 (0, 0)) (by (with_reducible repeat (first | refine blk_drewN ?_ _ | refine blk_drew ?_ | refine blk_alloc ?_ _)); exact BK301.out) k_ hk_)⟩)) (below_size (by repeat (first | (with_reducible first | exact HB.out | apply below_alloc | apply pw_below_drewN | apply below_drew1 | refine below_set ?_ GE299.out | refine below_set ?_ GE301.out) | exact HB.out))))
            have n4_ := Aside0.mk (blk_below (g := gb299) (o := .cells #[.int .u8 t295, .slice (some ad302) t296.length co13] 41 (0, 0)) (by (with_reducible repeat (first | refine blk_drewN ?_ _ | refine blk_drew ?_ | refine blk_alloc ?_ _)); exact BK299.out) hb)
            have n5_ := Aside0.mk (blk_below (g := gb301) (o := .cells #[.int .i64 ((rd_T37 l1 x25_1).f0), .slice A300_1 ((rd_T37 l1 x25_1).f1).length c300_1, .string ((rd_T37 l1 x25_1).f2.f0), .slice A300_3 ((rd_T37 l1 x25_1).f2.f1).length c300_3, .string ((rd_T37 l1 x25_1).f3.f0.f0), .slice A300_5 ((rd_T37 l1 x25_1).f3.f0.f1).length c300_5, .int .i64 ((rd_T37 l1 x25_1).f3.f1)] 37 (0, 0)) (by (with_reducible repeat (first | refine blk_drewN ?_ _ | refine blk_drew ?_ | refine blk_alloc ?_ _)); exact BK301.out) hb)
            have n6_ := Aside0.mk (below_step (by repeat (first | (with_reducible first | exact HB.out | apply below_alloc | apply pw_below_drewN | apply below_drew1 | refine below_set ?_ GE299.out | refine below_set ?_ GE301.out) | exact HB.out)) hb)
            clear HO_7
            clear HO_300001
            clear BK299
            clear BK301
            clear HB
            have HO_7 := n0_
            have HO_300001 := n1_
            have HO306 := n2_
            have HO309 := n3_
            have BK299 := n4_
            have BK301 := n5_
            have HB := n6_
            clear n0_ n1_ n2_ n3_ n4_ n5_ n6_
            (try clear hb)
            (try clear hb2)
            (try clear hk)
            (try clear hi)
            (try clear ho0)
            (try clear ho1)
            refine hK.out _ _ ⟨(blk_cell BK299.out 0).trans rfl, (blk_cell BK299.out 1).trans rfl, (blk_cell BK301.out 0).trans rfl, (blk_cell BK301.out 1).trans rfl, (blk_cell BK301.out 2).trans rfl, (blk_cell BK301.out 3).trans rfl, (blk_cell BK301.out 4).trans rfl, (blk_cell BK301.out 5).trans rfl, (blk_cell BK301.out 6).trans rfl, HS9_⟩ (fun hHeld => ?_)
            clear hK K
            refine norm_ (a' := ?_) ?_ ?_
            rotate_left
            ·show Act.put _ (some 37) _ = _
             simp only [Act.put, List.setIfInBounds_toArray, List.set_cons_zero, List.set_cons_succ, i64_w, i32_w]
             rfl
            refine pure_ (i := 7) (N := some 30) (v := ?_) (a' := ?_) #[true, true, true, true, true, true, true, true, false, false, false, false, false] rfl rfl (any_of HT_.out (by kernel_rfl)) (fun _ _ _ h => h) (Or.inl ⟨by rfl, ?_⟩) ?_ ?_
            rotate_left
            ·intro w'
             go_simp
             with_reducible rfl
            rotate_left
            ·simp only [Act.put, List.setIfInBounds_toArray, List.set_cons_zero, List.set_cons_succ, i64_w, i32_w]
             rfl
            refine pure_ (i := 8) (N := some 38) (v := ?_) (a' := ?_) #[true, true, true, true, true, true, true, true, true, false, false, false, false] rfl rfl (any_of HT_.out (by kernel_rfl)) (fun _ _ _ h => h) (Or.inl ⟨by rfl, ?_⟩) ?_ ?_
            rotate_left
            ·intro w'
             go_simp
             with_reducible rfl
            rotate_left
            ·simp only [Act.put, List.setIfInBounds_toArray, List.set_cons_zero, List.set_cons_succ, i64_w, i32_w]
             rfl
            refine pure_ (i := 9) (N := some 39) (v := ?_) (a' := ?_) #[true, true, true, true, true, true, true, true, true, true, false, false, false] rfl rfl (any_of HT_.out (by kernel_rfl)) (fun _ _ _ h => h) (Or.inl ⟨by rfl, ?_⟩) ?_ ?_
            rotate_left
            ·intro w'
             go_simp
             with_reducible rfl
            rotate_left
            ·simp only [Act.put, List.setIfInBounds_toArray, List.set_cons_zero, List.set_cons_succ, i64_w, i32_w]
             rfl
            refine one_ (i := 10) (N := some 10) #[true, true, true, true, true, true, true, true, true, true, true, false, false] rfl rfl (one_of HT_.out (by kernel_rfl)) (by decide) (fun K hK => ?_)
            refine box_step ?hg (N := 10) ?hd (cs := #[.int .u8 0, .slice none 0 0, .slice none 0 0]) (t := 45) ?hr ?_; (case hd => rfl); (case hg => rfl); (case hr => first | (go_simp; done) | (go_simp; rfl))
            intro gb311 hg w45 hbox hb
            have HS9_ := (hb.cell (World.block_lt_of_cell? _ _ (hHeld.2.2.2.2.2.2.2.2.2))).trans (hHeld.2.2.2.2.2.2.2.2.2)
            have n0_ := Aside0.mk (Kd.N_below (Kd.N_elderB (by (with_reducible repeat (first | apply Kd.N_alloc | apply Kd.N_drewN | apply Kd.N_drew)); exact HO_7.out) gb311 (Nat.le_of_eq hg.symm)) hb)
            have n1_ := Aside0.mk (Kd.R_below (by (with_reducible repeat (first | apply Kd.R_alloc | apply Kd.R_drewN | apply Kd.R_drew)); exact HO_300001.out) hb)
            have n2_ := Aside0.mk (Kd.V_below (Kd.V_elderB (by (with_reducible repeat (first | apply Kd.V_alloc | apply Kd.V_drewN | apply Kd.V_drew)); exact HO306.out) gb311 (Nat.le_of_eq hg.symm)) hb)
            have n3_ := Aside0.mk (Kd.V_below (Kd.V_elderB (by (with_reducible repeat (first | apply Kd.V_alloc | apply Kd.V_drewN | apply Kd.V_drew)); exact HO309.out) gb311 (Nat.le_of_eq hg.symm)) hb)
            have n4_ := Aside0.mk (blk_below (g := gb299) (o := .cells #[.int .u8 t295, .slice (some ad302) t296.length co13] 41 (0, 0)) (by (with_reducible repeat (first | refine blk_drewN ?_ _ | refine blk_drew ?_ | refine blk_alloc ?_ _)); exact BK299.out) hb)
            have n5_ := Aside0.mk (blk_below (g := gb301) (o := .cells #[.int .i64 ((rd_T37 l1 x25_1).f0), .slice A300_1 ((rd_T37 l1 x25_1).f1).length c300_1, .string ((rd_T37 l1 x25_1).f2.f0), .slice A300_3 ((rd_T37 l1 x25_1).f2.f1).length c300_3, .string ((rd_T37 l1 x25_1).f3.f0.f0), .slice A300_5 ((rd_T37 l1 x25_1).f3.f0.f1).length c300_5, .int .i64 ((rd_T37 l1 x25_1).f3.f1)] 37 (0, 0)) (by (with_reducible repeat (first | refine blk_drewN ?_ _ | refine blk_drew ?_ | refine blk_alloc ?_ _)); exact BK301.out) hb)
            have n6_ := Aside0.mk (below_step (by repeat (first | (with_reducible first | exact HB.out | apply below_alloc | apply pw_below_drewN | apply below_drew1 | refine below_set ?_ GE299.out | refine below_set ?_ GE301.out) | exact HB.out)) hb)
            have n7_ := Aside0.mk (hbox)
            have n8_ := Aside0.mk ((by rw [hg]; exact (below_size (by repeat (first | (with_reducible first | exact HB.out | apply below_alloc | apply pw_below_drewN | apply below_drew1 | refine below_set ?_ GE299.out | refine below_set ?_ GE301.out) | exact HB.out))) : w.heap.size ≤ gb311))
            have n9_ := Aside0.mk ((by rw [hg]; exact (below_size (by repeat (first | (with_reducible first | exact HB.out | apply below_alloc | apply pw_below_drewN | apply below_drew1 | refine below_set ?_ GE299.out | refine below_set ?_ GE301.out) | exact HB.out))) : w.heap.size ≤ gb311))
            have n10_ := Aside0.mk ((by rw [hg]; exact Nat.ne_of_lt (blk_lt (g := gb299) (o := .cells #[.int .u8 t295, .slice (some ad302) t296.length co13] 41 (0, 0)) (by (with_reducible repeat (first | refine blk_drewN ?_ _ | refine blk_drew ?_ | refine blk_alloc ?_ _)); exact BK299.out)) : gb299 ≠ gb311))
            have n11_ := Aside0.mk ((by rw [hg]; exact Nat.ne_of_gt (blk_lt (g := gb299) (o := .cells #[.int .u8 t295, .slice (some ad302) t296.length co13] 41 (0, 0)) (by (with_reducible repeat (first | refine blk_drewN ?_ _ | refine blk_drew ?_ | refine blk_alloc ?_ _)); exact BK299.out)) : gb311 ≠ gb299))
            have n12_ := Aside0.mk ((by rw [hg]; exact Nat.ne_of_lt (blk_lt (g := gb301) (o := .cells #[.int .i64 ((rd_T37 l1 x25_1).f0), .slice A300_1 ((rd_T37 l1 x25_1).f1).length c300_1, .string ((rd_T37 l1 x25_1).f2.f0), .slice A300_3 ((rd_T37 l1 x25_1).f2.f1).length c300_3, .string ((rd_T37 l1 x25_1).f3.f0.f0), .slice A300_5 ((rd_T37 l1 x25_1).f3.f0.f1).length c300_5, .int .i64 ((rd_T37 l1 x25_1).f3.f1)] 37 (0, 0)) (by (with_reducible repeat (first | refine blk_drewN ?_ _ | refine blk_drew ?_ | refine blk_alloc ?_ _)); exact BK301.out)) : gb301 ≠ gb311))
            have n13_ := Aside0.mk ((by rw [hg]; exact Nat.ne_of_gt (blk_lt (g := gb301) (o := .cells #[.int .i64 ((rd_T37 l1 x25_1).f0), .slice A300_1 ((rd_T37 l1 x25_1).f1).length c300_1, .string ((rd_T37 l1 x25_1).f2.f0), .slice A300_3 ((rd_T37 l1 x25_1).f2.f1).length c300_3, .string ((rd_T37 l1 x25_1).f3.f0.f0), .slice A300_5 ((rd_T37 l1 x25_1).f3.f0.f1).length c300_5, .int .i64 ((rd_T37 l1 x25_1).f3.f1)] 37 (0, 0)) (by (with_reducible repeat (first | refine blk_drewN ?_ _ | refine blk_drew ?_ | refine blk_alloc ?_ _)); exact BK301.out)) : gb311 ≠ gb301))
            clear HO_7
            clear HO_300001
            clear HO306
            clear HO309
            clear BK299
            clear BK301
            clear HB
            have HO_7 := n0_
            have HO_300001 := n1_
            have HO306 := n2_
            have HO309 := n3_
            have BK299 := n4_
            have BK301 := n5_
            have HB := n6_
            have BK311 := n7_
            have GW311 := n8_
            have GE311 := n9_
            have NB299_311 := n10_
            have NB311_299 := n11_
            have NB301_311 := n12_
            have NB311_301 := n13_
            clear n0_ n1_ n2_ n3_ n4_ n5_ n6_ n7_ n8_ n9_ n10_ n11_ n12_ n13_
            clear hb hbox hg
            refine hK.out _ _ ⟨(blk_cell BK299.out 0).trans rfl, (blk_cell BK299.out 1).trans rfl, (blk_cell BK301.out 0).trans rfl, (blk_cell BK301.out 1).trans rfl, (blk_cell BK301.out 2).trans rfl, (blk_cell BK301.out 3).trans rfl, (blk_cell BK301.out 4).trans rfl, (blk_cell BK301.out 5).trans rfl, (blk_cell BK301.out 6).trans rfl, HS9_⟩ (fun hHeld => ?_)
            clear hK K
            refine norm_ (a' := ?_) ?_ ?_
            rotate_left
            ·show Act.put _ (some 10) _ = _
             simp only [Act.put, List.setIfInBounds_toArray, List.set_cons_zero, List.set_cons_succ, i64_w, i32_w]
             rfl
            exact norm_ (by simp only [putAll, Act.put, List.setIfInBounds_toArray, List.set_cons_zero, List.set_cons_succ]) (hCont (v305, v308, gb311) _ ⟨hHeld, (by (with_reducible repeat (first | apply Kd.V_alloc | apply Kd.V_drewN | apply Kd.V_drew)); exact Kd.V_mono HO306.out (fun _ hk => ⟨hk.1.2.1, ⟨hk.1.1, ⟨hk.1.2.2.1, ⟨hk.1.2.2.2, hk.2⟩⟩⟩⟩)), (by (with_reducible repeat (first | apply Kd.V_alloc | apply Kd.V_drewN | apply Kd.V_drew)); exact Kd.V_mono HO309.out (fun _ hk => ⟨hk.1.2.1, ⟨hk.1.1, ⟨hk.1.2.2.1, ⟨hk.1.2.2.2, hk.2⟩⟩⟩⟩)), (by (with_reducible repeat (first | apply Kd.R_alloc | apply Kd.R_drewN | apply Kd.R_drew)); exact HO_300001.out), (by (with_reducible repeat (first | apply Kd.N_alloc | apply Kd.N_drewN | apply Kd.N_drew)); exact Kd.N_mono HO_7.out (fun _ hk => ⟨hk.1.1, ⟨hk.1.2.1, ⟨hk.1.2.2, hk.2⟩⟩⟩)), (by (with_reducible repeat (first | refine blk_drewN ?_ _ | refine blk_drew ?_ | refine blk_alloc ?_ _)); exact BK299.out), (by (with_reducible repeat (first | refine blk_drewN ?_ _ | refine blk_drew ?_ | refine blk_alloc ?_ _)); exact BK301.out), (by (with_reducible repeat (first | refine blk_drewN ?_ _ | refine blk_drew ?_ | refine blk_alloc ?_ _)); exact BK311.out), GW311.out, GE311.out, NB299_311.out, NB311_299.out, NB301_311.out, NB311_301.out, (by repeat (first | (with_reducible first | exact HB.out | apply below_alloc | apply pw_below_drewN | apply below_drew1 | refine below_set ?_ GE299.out | refine below_set ?_ GE301.out | refine below_set ?_ GE311.out) | exact HB.out))⟩)
           ·skip
            refine box_step ?hg (N := 10) ?hd (cs := #[.int .u8 0, .slice none 0 0, .slice none 0 0]) (t := 45) ?hr ?_; (case hd => rfl); (case hg => rfl); (case hr => first | (go_simp; done) | (go_simp; rfl))
            intro gb311 hg w44 hbox hb
            have HS9_ := (hb.cell (World.block_lt_of_cell? _ _ (hHeld.2.2.2.2.2.2.2.2.2))).trans (hHeld.2.2.2.2.2.2.2.2.2)
            have n0_ := Aside0.mk (Kd.N_below (Kd.N_elderB (by (with_reducible repeat (first | apply Kd.N_alloc | apply Kd.N_drewN | apply Kd.N_drew)); exact HO_7.out) gb311 (Nat.le_of_eq hg.symm)) hb)
            have n1_ := Aside0.mk (Kd.R_below (by (with_reducible repeat (first | apply Kd.R_alloc | apply Kd.R_drewN | apply Kd.R_drew)); exact HO_300001.out) hb)
            have n2_ := Aside0.mk (blk_below (g := gb299) (o := .cells #[.int .u8 t295, .slice (some ad302) t296.length co13] 41 (0, 0)) (by (with_reducible repeat (first | refine blk_drewN ?_ _ | refine blk_drew ?_ | refine blk_alloc ?_ _)); exact BK299.out) hb)
            have n3_ := Aside0.mk (blk_below (g := gb301) (o := .cells #[.int .i64 ((rd_T37 l1 x25_1).f0), .slice A300_1 ((rd_T37 l1 x25_1).f1).length c300_1, .string ((rd_T37 l1 x25_1).f2.f0), .slice A300_3 ((rd_T37 l1 x25_1).f2.f1).length c300_3, .string ((rd_T37 l1 x25_1).f3.f0.f0), .slice A300_5 ((rd_T37 l1 x25_1).f3.f0.f1).length c300_5, .int .i64 ((rd_T37 l1 x25_1).f3.f1)] 37 (0, 0)) (by (with_reducible repeat (first | refine blk_drewN ?_ _ | refine blk_drew ?_ | refine blk_alloc ?_ _)); exact BK301.out) hb)
            have n4_ := Aside0.mk (below_step (by repeat (first | (with_reducible first | exact HB.out | apply below_alloc | apply pw_below_drewN | apply below_drew1 | refine below_set ?_ GE299.out | refine below_set ?_ GE301.out) | exact HB.out)) hb)
            have n5_ := Aside0.mk (hbox)
            have n6_ := Aside0.mk ((by rw [hg]; exact (below_size (by repeat (first | (with_reducible first | exact HB.out | apply below_alloc | apply pw_below_drewN | apply below_drew1 | refine below_set ?_ GE299.out | refine below_set ?_ GE301.out) | exact HB.out))) : w.heap.size ≤ gb311))
            have n7_ := Aside0.mk ((by rw [hg]; exact (below_size (by repeat (first | (with_reducible first | exact HB.out | apply below_alloc | apply pw_below_drewN | apply below_drew1 | refine below_set ?_ GE299.out | refine below_set ?_ GE301.out) | exact HB.out))) : w.heap.size ≤ gb311))
            have n8_ := Aside0.mk ((by rw [hg]; exact Nat.ne_of_lt (blk_lt (g := gb299) (o := .cells #[.int .u8 t295, .slice (some ad302) t296.length co13] 41 (0, 0)) (by (with_reducible repeat (first | refine blk_drewN ?_ _ | refine blk_drew ?_ | refine blk_alloc ?_ _)); exact BK299.out)) : gb299 ≠ gb311))
            have n9_ := Aside0.mk ((by rw [hg]; exact Nat.ne_of_gt (blk_lt (g := gb299) (o := .cells #[.int .u8 t295, .slice (some ad302) t296.length co13] 41 (0, 0)) (by (with_reducible repeat (first | refine blk_drewN ?_ _ | refine blk_drew ?_ | refine blk_alloc ?_ _)); exact BK299.out)) : gb311 ≠ gb299))
            have n10_ := Aside0.mk ((by rw [hg]; exact Nat.ne_of_lt (blk_lt (g := gb301) (o := .cells #[.int .i64 ((rd_T37 l1 x25_1).f0), .slice A300_1 ((rd_T37 l1 x25_1).f1).length c300_1, .string ((rd_T37 l1 x25_1).f2.f0), .slice A300_3 ((rd_T37 l1 x25_1).f2.f1).length c300_3, .string ((rd_T37 l1 x25_1).f3.f0.f0), .slice A300_5 ((rd_T37 l1 x25_1).f3.f0.f1).length c300_5, .int .i64 ((rd_T37 l1 x25_1).f3.f1)] 37 (0, 0)) (by (with_reducible repeat (first | refine blk_drewN ?_ _ | refine blk_drew ?_ | refine blk_alloc ?_ _)); exact BK301.out)) : gb301 ≠ gb311))
            have n11_ := Aside0.mk ((by rw [hg]; exact Nat.ne_of_gt (blk_lt (g := gb301) (o := .cells #[.int .i64 ((rd_T37 l1 x25_1).f0), .slice A300_1 ((rd_T37 l1 x25_1).f1).length c300_1, .string ((rd_T37 l1 x25_1).f2.f0), .slice A300_3 ((rd_T37 l1 x25_1).f2.f1).length c300_3, .string ((rd_T37 l1 x25_1).f3.f0.f0), .slice A300_5 ((rd_T37 l1 x25_1).f3.f0.f1).length c300_5, .int .i64 ((rd_T37 l1 x25_1).f3.f1)] 37 (0, 0)) (by (with_reducible repeat (first | refine blk_drewN ?_ _ | refine blk_drew ?_ | refine blk_alloc ?_ _)); exact BK301.out)) : gb311 ≠ gb301))
            clear HO_7
            clear HO_300001
            clear BK299
            clear BK301
            clear HB
            have HO_7 := n0_
            have HO_300001 := n1_
            have BK299 := n2_
            have BK301 := n3_
            have HB := n4_
            have BK311 := n5_
            have GW311 := n6_
            have GE311 := n7_
            have NB299_311 := n8_
            have NB311_299 := n9_
            have NB301_311 := n10_
            have NB311_301 := n11_
            clear n0_ n1_ n2_ n3_ n4_ n5_ n6_ n7_ n8_ n9_ n10_ n11_
            clear hb hbox hg
            refine hK.out _ _ ⟨(blk_cell BK299.out 0).trans rfl, (blk_cell BK299.out 1).trans rfl, (blk_cell BK301.out 0).trans rfl, (blk_cell BK301.out 1).trans rfl, (blk_cell BK301.out 2).trans rfl, (blk_cell BK301.out 3).trans rfl, (blk_cell BK301.out 4).trans rfl, (blk_cell BK301.out 5).trans rfl, (blk_cell BK301.out 6).trans rfl, HS9_⟩ (fun hHeld => ?_)
            clear hK K
            refine norm_ (a' := ?_) ?_ ?_
            rotate_left
            ·show Act.put _ (some 10) _ = _
             simp only [Act.put, List.setIfInBounds_toArray, List.set_cons_zero, List.set_cons_succ, i64_w, i32_w]
             rfl
            refine one_ (i := 6) (N := some 37) #[true, true, true, true, true, true, true, false, false, false, true, false, false] rfl rfl (one_of HT_.out (by kernel_rfl)) (by decide) (fun K hK => ?_)
            refine goes_ Tryd.func9 (by kernel_rfl) rfl #[anyV (rd t296 x25_1), .agg #[.int .i64 ((rd_T37 l1 x25_1).f0), .slice A300_1 ((rd_T37 l1 x25_1).f1).length c300_1, .string ((rd_T37 l1 x25_1).f2.f0), .slice A300_3 ((rd_T37 l1 x25_1).f2.f1).length c300_3, .string ((rd_T37 l1 x25_1).f3.f0.f0), .slice A300_5 ((rd_T37 l1 x25_1).f3.f0.f1).length c300_5, .int .i64 ((rd_T37 l1 x25_1).f3.f1)]] (by rfl) rfl rfl (by (try simp only [List.map_toArray, List.map_cons, List.map_nil]); first | done | rfl | (simp only [List.length_drop, List.length_take]; rfl)) ?_
            with_reducible refine (msgs_state.calls (rd t296 x25_1) ((rd_T37 l1 x25_1).f0) _ _ ((rd_T37 l1 x25_1).f1) ((rd_T37 l1 x25_1).f2.f0) _ _ ((rd_T37 l1 x25_1).f2.f1) ((rd_T37 l1 x25_1).f3.f0.f0) _ _ ((rd_T37 l1 x25_1).f3.f0.f1) ((rd_T37 l1 x25_1).f3.f1) t303 t304 t307 false _ ?side1 ?side2 ?side3 ?side4 ?side5 ?side6 A18.out).mono ?_
            (case side1 => repeat (first | exact (Kd.C_below HR300_1.out HB.out) | (with_reducible refine Kd.C_alloc ?_ _) | (with_reducible refine Kd.C_drewN ?_ _) | (with_reducible refine Kd.C_drew ?_)))
            (case side2 => exact HC300_1.out)
            (case side3 => repeat (first | exact (Kd.C_below HR300_3.out HB.out) | (with_reducible refine Kd.C_alloc ?_ _) | (with_reducible refine Kd.C_drewN ?_ _) | (with_reducible refine Kd.C_drew ?_)))
            (case side4 => exact HC300_3.out)
            (case side5 => repeat (first | exact (Kd.C_below HR300_5.out HB.out) | (with_reducible refine Kd.C_alloc ?_ _) | (with_reducible refine Kd.C_drewN ?_ _) | (with_reducible refine Kd.C_drew ?_)))
            (case side6 => exact HC300_5.out)
            rintro e w45 ⟨v305, v308, rfl, ho0, ho1, hb⟩
            have HS9_ := (hb.cell (World.block_lt_of_cell? _ _ (hHeld.2.2.2.2.2.2.2.2.2))).trans (hHeld.2.2.2.2.2.2.2.2.2)
            refine ⟨_, rfl, ?_⟩
            have n0_ := Aside0.mk (Kd.N_below (by (with_reducible repeat (first | apply Kd.N_alloc | apply Kd.N_drewN | apply Kd.N_drew)); exact HO_7.out) hb)
            have n1_ := Aside0.mk (Kd.R_below (by (with_reducible repeat (first | apply Kd.R_alloc | apply Kd.R_drewN | apply Kd.R_drew)); exact HO_300001.out) hb)
            have n2_ := Aside0.mk (Kd.V_lower (Kd.V_mono (ok' := fun k_ => some k_ ≠ (u7 : Value).ownBlock ∧ some k_ ≠ (.slice (some ad302) t296.length co13 : Value).ownBlock ∧ k_ ≠ gb299 ∧ k_ ≠ gb301 ∧ k_ ≠ gb311) ho0 (fun k_ hk_ => ⟨(Kd.fresh' (Kd.N_lt (by (with_reducible repeat (first | apply Kd.N_alloc | apply Kd.N_drewN | apply Kd.N_drew)); exact HO_7.out)) k_ hk_), (Kd.fresh' (Kd.R_lt (by (with_reducible repeat (first | apply Kd.R_alloc | apply Kd.R_drewN | apply Kd.R_drew)); exact HO_300001.out)) k_ hk_), (Kd.freshB (g := gb299) (o := .cells #[.int .u8 t295, .slice (some ad302) t296.length co13] 41 (0, 0)) (by (with_reducible repeat (first | refine blk_drewN ?_ _ | refine blk_drew ?_ | refine blk_alloc ?_ _)); exact BK299.out) k_ hk_), (Kd.freshB (g := gb301) (o := .cells #[.int .i64 ((rd_T37 l1 x25_1).f0), .slice A300_1 ((rd_T37 l1 x25_1).f1).length c300_1, .string ((rd_T37 l1 x25_1).f2.f0), .slice A300_3 ((rd_T37 l1 x25_1).f2.f1).length c300_3, .string ((rd_T37 l1 x25_1).f3.f0.f0), .slice A300_5 ((rd_T37 l1 x25_1).f3.f0.f1).length c300_5, .int .i64 ((rd_T37 l1 x25_1).f3.f1)] 37 (0, 0)) (by (with_reducible repeat (first | refine blk_drewN ?_ _ | refine blk_drew ?_ | refine blk_alloc ?_ _)); exact BK301.out) k_ hk_), (Kd.freshB (g := gb311) (o := .cells #[.int .u8 0, .slice none 0 0, .slice none 0 0] 45 (0, 0)) (by (with_reducible repeat (first | refine blk_drewN ?_ _ | refine blk_drew ?_ | refine blk_alloc ?_ _)); exact BK311.out) k_ hk_)⟩)) (below_size (by repeat (first | (with_reducible first | exact HB.out | apply below_alloc | apply pw_below_drewN | apply below_drew1 | refine below_set ?_ GE299.out | refine below_set ?_ GE301.out | refine below_set ?_ GE311.out) | exact HB.out))))
            have n3_ := Aside0.mk (Kd.V_lower (Kd.V_mono (ok' := fun k_ => some k_ ≠ (u7 : Value).ownBlock ∧ some k_ ≠ (.slice (some ad302) t296.length co13 : Value).ownBlock ∧ k_ ≠ gb299 ∧ k_ ≠ gb301 ∧ k_ ≠ gb311) ho1 (fun k_ hk_ => ⟨(Kd.fresh' (Kd.N_lt (by (with_reducible repeat (first | apply Kd.N_alloc | apply Kd.N_drewN | apply Kd.N_drew)); exact HO_7.out)) k_ hk_), (Kd.fresh' (Kd.R_lt (by (with_reducible repeat (first | apply Kd.R_alloc | apply Kd.R_drewN | apply Kd.R_drew)); exact HO_300001.out)) k_ hk_), (Kd.freshB (g := gb299) (o := .cells #[.int .u8 t295, .slice (some ad302) t296.length co13] 41 (0, 0)) (by (with_reducible repeat (first | refine blk_drewN ?_ _ | refine blk_drew ?_ | refine blk_alloc ?_ _)); exact BK299.out) k_ hk_), (Kd.freshB (g := gb301) (o := .cells #[.int .i64 ((rd_T37 l1 x25_1).f0), .slice A300_1 ((rd_T37 l1 x25_1).f1).length c300_1, .string ((rd_T37 l1 x25_1).f2.f0), .slice A300_3 ((rd_T37 l1 x25_1).f2.f1).length c300_3, .string ((rd_T37 l1 x25_1).f3.f0.f0), .slice A300_5 ((rd_T37 l1 x25_1).f3.f0.f1).length c300_5, .int .i64 ((rd_T37 l1 x25_1).f3.f1)] 37 (0, 0)) (by (with_reducible repeat (first | refine blk_drewN ?_ _ | refine blk_drew ?_ | refine blk_alloc ?_ _)); exact BK301.out) k_ hk_), (Kd.freshB (g := gb311) (o := .cells #[.int .u8 0, .slice none 0 0, .slice none 0 0] 45 (0, 0)) (by (with_reducible repeat (first | refine blk_drewN ?_ _ | refine blk_drew ?_ | refine blk_alloc ?_ _)); exact BK311.out) k_ hk_)⟩)) (below_size (by repeat (first | (with_reducible first | exact HB.out | apply below_alloc | apply pw_below_drewN | apply below_drew1 | refine below_set ?_ GE299.out | refine below_set ?_ GE301.out | refine below_set ?_ GE311.out) | exact HB.out))))
            have n4_ := Aside0.mk (blk_below (g := gb299) (o := .cells #[.int .u8 t295, .slice (some ad302) t296.length co13] 41 (0, 0)) (by (with_reducible repeat (first | refine blk_drewN ?_ _ | refine blk_drew ?_ | refine blk_alloc ?_ _)); exact BK299.out) hb)
            have n5_ := Aside0.mk (blk_below (g := gb301) (o := .cells #[.int .i64 ((rd_T37 l1 x25_1).f0), .slice A300_1 ((rd_T37 l1 x25_1).f1).length c300_1, .string ((rd_T37 l1 x25_1).f2.f0), .slice A300_3 ((rd_T37 l1 x25_1).f2.f1).length c300_3, .string ((rd_T37 l1 x25_1).f3.f0.f0), .slice A300_5 ((rd_T37 l1 x25_1).f3.f0.f1).length c300_5, .int .i64 ((rd_T37 l1 x25_1).f3.f1)] 37 (0, 0)) (by (with_reducible repeat (first | refine blk_drewN ?_ _ | refine blk_drew ?_ | refine blk_alloc ?_ _)); exact BK301.out) hb)
            have n6_ := Aside0.mk (blk_below (g := gb311) (o := .cells #[.int .u8 0, .slice none 0 0, .slice none 0 0] 45 (0, 0)) (by (with_reducible repeat (first | refine blk_drewN ?_ _ | refine blk_drew ?_ | refine blk_alloc ?_ _)); exact BK311.out) hb)
            have n7_ := Aside0.mk (below_step (by repeat (first | (with_reducible first | exact HB.out | apply below_alloc | apply pw_below_drewN | apply below_drew1 | refine below_set ?_ GE299.out | refine below_set ?_ GE301.out | refine below_set ?_ GE311.out) | exact HB.out)) hb)
            clear HO_7
            clear HO_300001
            clear BK299
            clear BK301
            clear BK311
            clear HB
            have HO_7 := n0_
            have HO_300001 := n1_
            have HO306 := n2_
            have HO309 := n3_
            have BK299 := n4_
            have BK301 := n5_
            have BK311 := n6_
            have HB := n7_
            clear n0_ n1_ n2_ n3_ n4_ n5_ n6_ n7_
            (try clear hb)
            (try clear hb2)
            (try clear hk)
            (try clear hi)
            (try clear ho0)
            (try clear ho1)
            refine hK.out _ _ ⟨(blk_cell BK299.out 0).trans rfl, (blk_cell BK299.out 1).trans rfl, (blk_cell BK301.out 0).trans rfl, (blk_cell BK301.out 1).trans rfl, (blk_cell BK301.out 2).trans rfl, (blk_cell BK301.out 3).trans rfl, (blk_cell BK301.out 4).trans rfl, (blk_cell BK301.out 5).trans rfl, (blk_cell BK301.out 6).trans rfl, HS9_⟩ (fun hHeld => ?_)
            clear hK K
            refine norm_ (a' := ?_) ?_ ?_
            rotate_left
            ·show Act.put _ (some 37) _ = _
             simp only [Act.put, List.setIfInBounds_toArray, List.set_cons_zero, List.set_cons_succ, i64_w, i32_w]
             rfl
            refine pure_ (i := 7) (N := some 30) (v := ?_) (a' := ?_) #[true, true, true, true, true, true, true, true, false, false, true, false, false] rfl rfl (any_of HT_.out (by kernel_rfl)) (fun _ _ _ h => h) (Or.inl ⟨by rfl, ?_⟩) ?_ ?_
            rotate_left
            ·intro w'
             go_simp
             with_reducible rfl
            rotate_left
            ·simp only [Act.put, List.setIfInBounds_toArray, List.set_cons_zero, List.set_cons_succ, i64_w, i32_w]
             rfl
            refine pure_ (i := 8) (N := some 38) (v := ?_) (a' := ?_) #[true, true, true, true, true, true, true, true, true, false, true, false, false] rfl rfl (any_of HT_.out (by kernel_rfl)) (fun _ _ _ h => h) (Or.inl ⟨by rfl, ?_⟩) ?_ ?_
            rotate_left
            ·intro w'
             go_simp
             with_reducible rfl
            rotate_left
            ·simp only [Act.put, List.setIfInBounds_toArray, List.set_cons_zero, List.set_cons_succ, i64_w, i32_w]
             rfl
            refine pure_ (i := 9) (N := some 39) (v := ?_) (a' := ?_) #[true, true, true, true, true, true, true, true, true, true, true, false, false] rfl rfl (any_of HT_.out (by kernel_rfl)) (fun _ _ _ h => h) (Or.inl ⟨by rfl, ?_⟩) ?_ ?_
            rotate_left
            ·intro w'
             go_simp
             with_reducible rfl
            rotate_left
            ·simp only [Act.put, List.setIfInBounds_toArray, List.set_cons_zero, List.set_cons_succ, i64_w, i32_w]
             rfl
            exact norm_ (by simp only [putAll, Act.put, List.setIfInBounds_toArray, List.set_cons_zero, List.set_cons_succ]) (hCont (v305, v308, gb311) _ ⟨hHeld, (by (with_reducible repeat (first | apply Kd.V_alloc | apply Kd.V_drewN | apply Kd.V_drew)); exact Kd.V_mono HO306.out (fun _ hk => ⟨hk.2.1, ⟨hk.1, ⟨hk.2.2.1, ⟨hk.2.2.2.1, hk.2.2.2.2⟩⟩⟩⟩)), (by (with_reducible repeat (first | apply Kd.V_alloc | apply Kd.V_drewN | apply Kd.V_drew)); exact Kd.V_mono HO309.out (fun _ hk => ⟨hk.2.1, ⟨hk.1, ⟨hk.2.2.1, ⟨hk.2.2.2.1, hk.2.2.2.2⟩⟩⟩⟩)), (by (with_reducible repeat (first | apply Kd.R_alloc | apply Kd.R_drewN | apply Kd.R_drew)); exact HO_300001.out), (by (with_reducible repeat (first | apply Kd.N_alloc | apply Kd.N_drewN | apply Kd.N_drew)); exact Kd.N_mono HO_7.out (fun _ hk => ⟨hk.1.1, ⟨hk.1.2.1, ⟨hk.1.2.2, hk.2⟩⟩⟩)), (by (with_reducible repeat (first | refine blk_drewN ?_ _ | refine blk_drew ?_ | refine blk_alloc ?_ _)); exact BK299.out), (by (with_reducible repeat (first | refine blk_drewN ?_ _ | refine blk_drew ?_ | refine blk_alloc ?_ _)); exact BK301.out), (by (with_reducible repeat (first | refine blk_drewN ?_ _ | refine blk_drew ?_ | refine blk_alloc ?_ _)); exact BK311.out), GW311.out, GE311.out, NB299_311.out, NB311_299.out, NB301_311.out, NB311_301.out, (by repeat (first | (with_reducible first | exact HB.out | apply below_alloc | apply pw_below_drewN | apply below_drew1 | refine below_set ?_ GE299.out | refine below_set ?_ GE301.out | refine below_set ?_ GE311.out) | exact HB.out))⟩)
          rintro ⟨v305, v308, gb311⟩ w46 ⟨hS_, h0_, h1_, h2_, h3_, h4_, h5_, h6_, h7_, h8_, h9_, h10_, h11_, h12_, h13_⟩
          have n0_ : Aside0 (Kd.V (Kd.int .u8) 5 w46 w.heap.size (fun k_ => some k_ ≠ (.slice (some ad302) t296.length co13 : Value).ownBlock ∧ some k_ ≠ (u7 : Value).ownBlock ∧ k_ ≠ gb299 ∧ k_ ≠ gb301 ∧ k_ ≠ gb311) v305 t304) := ⟨h0_⟩
          have n1_ : Aside0 (Kd.V k45 45 w46 w.heap.size (fun k_ => some k_ ≠ (.slice (some ad302) t296.length co13 : Value).ownBlock ∧ some k_ ≠ (u7 : Value).ownBlock ∧ k_ ≠ gb299 ∧ k_ ≠ gb301 ∧ k_ ≠ gb311) v308 t307) := ⟨h1_⟩
          have n2_ : Aside0 (Kd.R Kd.anyK 20 w46 w.heap.size (fun _ => True) (.slice (some ad302) t296.length co13) t296) := ⟨h2_⟩
          have n3_ : Aside0 (Kd.N k45 45 w46 w.heap.size (fun k_ => some k_ ≠ (.slice (some ad302) t296.length co13 : Value).ownBlock ∧ k_ ≠ gb299 ∧ k_ ≠ gb301 ∧ k_ ≠ gb311) u7 x7_1) := ⟨h3_⟩
          have n4_ : Aside0 (w46.heap[gb299]? = some (.cells #[.int .u8 t295, .slice (some ad302) t296.length co13] 41 (0, 0))) := ⟨h4_⟩
          have n5_ : Aside0 (w46.heap[gb301]? = some (.cells #[.int .i64 ((rd_T37 l1 x25_1).f0), .slice A300_1 ((rd_T37 l1 x25_1).f1).length c300_1, .string ((rd_T37 l1 x25_1).f2.f0), .slice A300_3 ((rd_T37 l1 x25_1).f2.f1).length c300_3, .string ((rd_T37 l1 x25_1).f3.f0.f0), .slice A300_5 ((rd_T37 l1 x25_1).f3.f0.f1).length c300_5, .int .i64 ((rd_T37 l1 x25_1).f3.f1)] 37 (0, 0))) := ⟨h5_⟩
          have n6_ : Aside0 (w46.heap[gb311]? = some (.cells #[.int .u8 0, .slice none 0 0, .slice none 0 0] 45 (0, 0))) := ⟨h6_⟩
          have n7_ : Aside0 (w.heap.size ≤ gb311) := ⟨h7_⟩
          have n8_ : Aside0 (w.heap.size ≤ gb311) := ⟨h8_⟩
          have n9_ : Aside0 (gb299 ≠ gb311) := ⟨h9_⟩
          have n10_ : Aside0 (gb311 ≠ gb299) := ⟨h10_⟩
          have n11_ : Aside0 (gb301 ≠ gb311) := ⟨h11_⟩
          have n12_ : Aside0 (gb311 ≠ gb301) := ⟨h12_⟩
          have n13_ : Aside0 (Below w.heap.size w w46) := ⟨h13_⟩
          clear HO_7
          clear HO_300001
          clear BK299
          clear BK301
          clear HB
          clear h0_ h1_ h2_ h3_ h4_ h5_ h6_ h7_ h8_ h9_ h10_ h11_ h12_ h13_
          have HO306 := n0_
          have HO309 := n1_
          have HO_300001 := n2_
          have HO_7 := n3_
          have BK299 := n4_
          have BK301 := n5_
          have BK311 := n6_
          have GW311 := n7_
          have GE311 := n8_
          have NB299_311 := n9_
          have NB311_299 := n10_
          have NB301_311 := n11_
          have NB311_301 := n12_
          have HB := n13_
          clear n0_ n1_ n2_ n3_ n4_ n5_ n6_ n7_ n8_ n9_ n10_ n11_ n12_ n13_
          have hHeld : w46.cell? ⟨gb299, 0, none⟩ = some (.int .u8 t295) ∧ w46.cell? ⟨gb299, 1, none⟩ = some (.slice (some ad302) t296.length co13) ∧ w46.cell? ⟨gb301, 0, none⟩ = some (.int .i64 ((rd_T37 l1 x25_1).f0)) ∧ w46.cell? ⟨gb301, 1, none⟩ = some (.slice A300_1 ((rd_T37 l1 x25_1).f1).length c300_1) ∧ w46.cell? ⟨gb301, 2, none⟩ = some (.string ((rd_T37 l1 x25_1).f2.f0)) ∧ w46.cell? ⟨gb301, 3, none⟩ = some (.slice A300_3 ((rd_T37 l1 x25_1).f2.f1).length c300_3) ∧ w46.cell? ⟨gb301, 4, none⟩ = some (.string ((rd_T37 l1 x25_1).f3.f0.f0)) ∧ w46.cell? ⟨gb301, 5, none⟩ = some (.slice A300_5 ((rd_T37 l1 x25_1).f3.f0.f1).length c300_5) ∧ w46.cell? ⟨gb301, 6, none⟩ = some (.int .i64 ((rd_T37 l1 x25_1).f3.f1)) ∧ w46.cell? (ad302.add (x25_1).toNat) = some (anyV (rd t296 x25_1)) := hS_
          obtain ⟨Ao48, co48, eo48⟩ := Kd.V_slice HO306.out
          (first | subst eo48 | (injection eo48 with f1_ f2_ f3_; have f4_ := f1_.symm; have f5_ := f3_.symm; clear f1_ f2_ f3_; subst f4_; subst f5_))
          obtain ⟨Ao50, co50, eo50⟩ := Kd.V_slice HO309.out
          (first | subst eo50 | (injection eo50 with f1_ f2_ f3_; have f4_ := f1_.symm; have f5_ := f3_.symm; clear f1_ f2_ f3_; subst f4_; subst f5_))
          refine norm_ (a' := ?_) ?_ ?_
          rotate_left
          ·simp only [putAll, Act.put, List.setIfInBounds_toArray, List.set_cons_zero, List.set_cons_succ]
           rfl
          refine one_ (i := 11) (N := none) #[true, true, true, true, true, true, true, true, true, true, true, true, false] rfl rfl (one_of HT_.out (by kernel_rfl)) (by decide) (fun K hK => ?_)
          have hs47 : w46.cell? ⟨gb311, 0, none⟩ = some (.int .u8 0) := (blk_cell BK311.out 0).trans rfl
          have hfs47 := blk_frozen BK311.out 0
          have hns47_0 := NB299_311.out
          have hns47_1 := NB301_311.out
          have hms47_0 := NB311_299.out
          have hms47_1 := NB311_301.out
          have hs49 : w46.cell? ⟨gb311, 1, none⟩ = some (.slice none 0 0) := (blk_cell BK311.out 1).trans rfl
          have hfs49 := blk_frozen BK311.out 1
          have hns49_0 := NB299_311.out
          have hns49_1 := NB301_311.out
          have hms49_0 := NB311_299.out
          have hms49_1 := NB311_301.out
          have hs51 : w46.cell? ⟨gb311, 2, none⟩ = some (.slice none 0 0) := (blk_cell BK311.out 2).trans rfl
          have hfs51 := blk_frozen BK311.out 2
          have hns51_0 := NB299_311.out
          have hns51_1 := NB301_311.out
          have hms51_0 := NB311_299.out
          have hms51_1 := NB311_301.out
          refine skip_ (w1 := ?_) (by rfl) rfl ?_ ?_
          rotate_left
          ·go_simp
           rfl
          refine hK.out _ _ ⟨((cell_far (p := ⟨gb311, _, none⟩) NB299_311.out _).trans (((cell_far (p := ⟨gb311, _, none⟩) NB299_311.out _).trans (((cell_far (p := ⟨gb311, _, none⟩) NB299_311.out _).trans (hHeld.1)))))), ((cell_far (p := ⟨gb311, _, none⟩) NB299_311.out _).trans (((cell_far (p := ⟨gb311, _, none⟩) NB299_311.out _).trans (((cell_far (p := ⟨gb311, _, none⟩) NB299_311.out _).trans (hHeld.2.1)))))), ((cell_far (p := ⟨gb311, _, none⟩) NB301_311.out _).trans (((cell_far (p := ⟨gb311, _, none⟩) NB301_311.out _).trans (((cell_far (p := ⟨gb311, _, none⟩) NB301_311.out _).trans (hHeld.2.2.1)))))), ((cell_far (p := ⟨gb311, _, none⟩) NB301_311.out _).trans (((cell_far (p := ⟨gb311, _, none⟩) NB301_311.out _).trans (((cell_far (p := ⟨gb311, _, none⟩) NB301_311.out _).trans (hHeld.2.2.2.1)))))), ((cell_far (p := ⟨gb311, _, none⟩) NB301_311.out _).trans (((cell_far (p := ⟨gb311, _, none⟩) NB301_311.out _).trans (((cell_far (p := ⟨gb311, _, none⟩) NB301_311.out _).trans (hHeld.2.2.2.2.1)))))), ((cell_far (p := ⟨gb311, _, none⟩) NB301_311.out _).trans (((cell_far (p := ⟨gb311, _, none⟩) NB301_311.out _).trans (((cell_far (p := ⟨gb311, _, none⟩) NB301_311.out _).trans (hHeld.2.2.2.2.2.1)))))), ((cell_far (p := ⟨gb311, _, none⟩) NB301_311.out _).trans (((cell_far (p := ⟨gb311, _, none⟩) NB301_311.out _).trans (((cell_far (p := ⟨gb311, _, none⟩) NB301_311.out _).trans (hHeld.2.2.2.2.2.2.1)))))), ((cell_far (p := ⟨gb311, _, none⟩) NB301_311.out _).trans (((cell_far (p := ⟨gb311, _, none⟩) NB301_311.out _).trans (((cell_far (p := ⟨gb311, _, none⟩) NB301_311.out _).trans (hHeld.2.2.2.2.2.2.2.1)))))), ((cell_far (p := ⟨gb311, _, none⟩) NB301_311.out _).trans (((cell_far (p := ⟨gb311, _, none⟩) NB301_311.out _).trans (((cell_far (p := ⟨gb311, _, none⟩) NB301_311.out _).trans (hHeld.2.2.2.2.2.2.2.2.1)))))), ((cell_far (p := ⟨gb311, _, none⟩) (by first | exact Kd.own_blk (Kd.R_ne HO_300001.out BK311.out (by decide)) | (rw [add_block]; exact Kd.own_blk (Kd.R_ne HO_300001.out BK311.out (by decide))) | (show (Addr.add _ _).block ≠ _; rw [add_block]; exact Kd.own_blk (Kd.R_ne HO_300001.out BK311.out (by decide))) | (dsimp only; exact Kd.own_blk (Kd.R_ne HO_300001.out BK311.out (by decide)))) _).trans (((cell_far (p := ⟨gb311, _, none⟩) (by first | exact Kd.own_blk (Kd.R_ne HO_300001.out BK311.out (by decide)) | (rw [add_block]; exact Kd.own_blk (Kd.R_ne HO_300001.out BK311.out (by decide))) | (show (Addr.add _ _).block ≠ _; rw [add_block]; exact Kd.own_blk (Kd.R_ne HO_300001.out BK311.out (by decide))) | (dsimp only; exact Kd.own_blk (Kd.R_ne HO_300001.out BK311.out (by decide)))) _).trans (((cell_far (p := ⟨gb311, _, none⟩) (by first | exact Kd.own_blk (Kd.R_ne HO_300001.out BK311.out (by decide)) | (rw [add_block]; exact Kd.own_blk (Kd.R_ne HO_300001.out BK311.out (by decide))) | (show (Addr.add _ _).block ≠ _; rw [add_block]; exact Kd.own_blk (Kd.R_ne HO_300001.out BK311.out (by decide))) | (dsimp only; exact Kd.own_blk (Kd.R_ne HO_300001.out BK311.out (by decide)))) _).trans (hHeld.2.2.2.2.2.2.2.2.2))))))⟩ (fun hHeld => ?_)
          clear hK K
          refine pure_ (i := 12) (N := some 11) (v := ?_) (a' := ?_) #[true, true, true, true, true, true, true, true, true, true, true, true, true] rfl rfl (any_of HT_.out (by kernel_rfl)) (fun _ _ _ h => h) (Or.inl ⟨by rfl, ?_⟩) ?_ ?_
          rotate_left
          ·intro w'
           go_simp
           with_reducible rfl
          rotate_left
          ·simp only [Act.put, List.setIfInBounds_toArray, List.set_cons_zero, List.set_cons_succ, i64_w, i32_w]
           rfl
          refine done_ (done_of HT_.out (by kernel_rfl)) ?_
          try go_wp2
          go_ret2
          exact ⟨_, by first | rfl | (simp [errW_none, errW_some] <;> rfl) | (simp [*, errW_none, errW_some] <;> rfl), by first | exact Kd.R_nil _ _ _ _ _ | exact Kd.N_nil _ _ _ _ _ | exact Kd.V_nil _ _ _ _ _ | exact Kd.Q_nil _ _ _ _ _ | exact Kd.S_nil _ _ _ _ _, by repeat (first | (with_reducible first | exact HB.out | apply below_alloc | apply pw_below_drewN | apply below_drew1 | refine below_set ?_ GE299.out | refine below_set ?_ GE301.out | refine below_set ?_ GE311.out) | exact HB.out)⟩
        ·rw [if_neg c17] at H
         exact absurd H (by simp)
       ·rw [if_neg c16] at H
        exact absurd H (by simp)
      ·rw [if_neg c15] at H
       exact absurd H (by simp)
     ·rw [if_neg c14] at H
      have c14b0 : decide (x25_1 < (l1.length : Int)) = false := decide_eq_false c14
      clear c14
      obtain ⟨y315, hy315⟩ : ∃ y_ : List (S45), y_ = (([(⟨48, ([] : List Int), x7_1⟩ : S45)] : List (S45))) := ⟨_, rfl⟩
      replace H : ((nodes_Print.f t295 ([] : List Int) y315).bind fun bt318 => (some (bt318.1, bt318.2))) = some (r1, r2) := by first | (rw [hy315]; with_reducible exact H) | (have H2_ := (Option.bind_some _ _).symm.trans H; rw [hy315]; with_reducible exact H2_) | (have H2_ := (Option.bind_some _ _).symm.trans H; with_reducible exact H2_) | with_reducible exact H | (rw [hy315]; exact H) | exact H
      have Ny315 := Aside0.mk hy315
      clear hy315
      replace H := Option.bind_eq_some_iff.mp H
      obtain ⟨⟨t318, t321⟩, A520, H⟩ := H
      replace H : (some (t318, t321)) = some (r1, r2) := H
      have A52 := Aside0.mk A520
      clear A520
      simp only [Option.some.injEq, Prod.mk.injEq] at H
      obtain ⟨rfl, rfl⟩ := H
      have hcz53_0 : wr.cell? ⟨gb299, 0, none⟩ = some (.int .u8 t295) := (blk_cell BK299.out 0).trans rfl
      have hcz53_1 : wr.cell? ⟨gb299, 1, none⟩ = some (.slice Ao13 t296.length co13) := (blk_cell BK299.out 1).trans rfl
      have hfz53_0 := blk_frozen BK299.out 0
      have hfz53_1 := blk_frozen BK299.out 1
      obtain ⟨Ao54, co54, eo54⟩ := Kd.N_slice HO_7.out
      subst eo54
      go_wp2_with (first | ((with_reducible refine gate_dst (N := 51) rfl ?_); refine Kd.N_lit k45 _ 45 ?hg (N' := 51) ?hd (xs := ([(⟨48, ([] : List Int), x7_1⟩ : S45)] : List (S45))) (inner := [.int .u8 48, .slice none 0 0, .slice Ao54 x7_1.length co54]) (ok := (fun k_ => some k_ ≠ (.slice Ao13 t296.length co13 : Value).ownBlock ∧ k_ ≠ gb299)) (okp := (fun k_ => some k_ ≠ (.slice Ao13 t296.length co13 : Value).ownBlock ∧ k_ ≠ gb299)) ?hr ?hp (fun _ hk => hk) ((show ∀ k_, wr.heap.size ≤ k_ → (fun k_ => some k_ ≠ (.slice Ao13 t296.length co13 : Value).ownBlock ∧ k_ ≠ gb299) k_ from fun k_ hk => ⟨Kd.fresh' (Kd.R_lt (by (with_reducible repeat (first | apply Kd.R_alloc | apply Kd.R_drewN | apply Kd.R_drew)); exact HO_300001.out)) k_ hk, Kd.freshB (g := gb299) (o := .cells #[.int .u8 t295, .slice Ao13 t296.length co13] 41 (0, 0)) (by (with_reducible repeat (first | refine blk_drewN ?_ _ | refine blk_drew ?_ | refine blk_alloc ?_ _)); exact BK299.out) k_ hk⟩) _ (Nat.le_refl _)) (Below.refl _ _) (Nat.le_refl _) (by simp) ?_; (case hd => rfl); (case hg => rfl); (case hr => first | (go_simp; done) | (go_simp; rfl)); (case hp => exact (Reps.c3 (show Kd.FK k45 _ _ (⟨48, ([] : List Int), x7_1⟩ : S45) [.int .u8 48, .slice none 0 0, .slice Ao54 x7_1.length co54] from (k45_mkF _ _ (⟨48, ([] : List Int), x7_1⟩ : S45) (Nat.le_refl _) (Kd.F_nil _ _ _) (Kd.N_reads' (Kd.N_mono (ok' := (fun k_ => some k_ ≠ (.slice Ao13 t296.length co13 : Value).ownBlock ∧ k_ ≠ gb299)) (HO_7.out) (fun k_ hk => ⟨hk.1, hk.2⟩))).2.1 (Kd.N_F (Kd.N_mono (ok' := (fun k_ => some k_ ≠ (.slice Ao13 t296.length co13 : Value).ownBlock ∧ k_ ≠ gb299)) (HO_7.out) (fun k_ hk => ⟨hk.1, hk.2⟩))))) (Reps.none _ _))); intro v316 w55 ho56 hb hg_ hnew_; clear hg_ hnew_; (first | rw [← Ny315.out] at ho56 | (simp only [Int.reduceToNat] at ho56; rw [← Ny315.out] at ho56)); have n0_ := Aside0.mk (Kd.R_below (by (with_reducible repeat (first | apply Kd.R_alloc | apply Kd.R_drewN | apply Kd.R_drew)); exact HO_300001.out) hb); have n1_ := Aside0.mk (Kd.N_lower ho56 (below_size (by repeat (first | (with_reducible first | exact HB.out | apply below_alloc | apply pw_below_drewN | apply below_drew1 | refine below_set ?_ GE299.out) | exact HB.out)))); have n2_ := Aside0.mk (blk_below (g := gb299) (o := .cells #[.int .u8 t295, .slice Ao13 t296.length co13] 41 (0, 0)) (by (with_reducible repeat (first | refine blk_drewN ?_ _ | refine blk_drew ?_ | refine blk_alloc ?_ _)); exact BK299.out) hb); have n3_ := Aside0.mk (below_step (by repeat (first | (with_reducible first | exact HB.out | apply below_alloc | apply pw_below_drewN | apply below_drew1 | refine below_set ?_ GE299.out) | exact HB.out)) hb); clear HO_300001; clear BK299; clear HB; clear HO_7; have HO_300001 := n0_; have HO317 := n1_; have BK299 := n2_; have HB := n3_; clear n0_ n1_ n2_ n3_; clear hb ho56; obtain ⟨Ao57, co57, eo57⟩ := Kd.N_slice HO317.out; subst eo57) | ((with_reducible refine gate_callee (f := 10) rfl ?_); refine goesL_ (some 53) rfl rfl Tryd.func10 (by kernel_rfl) rfl #[.agg #[.int .u8 t295, .slice none 0 0, .slice Ao57 y315.length co57]] rfl (by (try simp only [List.map_toArray, List.map_cons, List.map_nil]); first | done | rfl | (simp only [List.length_drop, List.length_take]; rfl)) ?_; (refine (nodes_Print.calls t295 _ _ ([] : List Int) _ _ y315 t318 t321 _ ?side1 ?side2 ?side3 ?side4 A52.out).mono ?_); (case side1 => exact Kd.C_nil _ _); (case side2 => exact Nat.le_refl _); (case side3 => repeat (first | exact (Kd.N_reads' HO317.out).2.2 | (with_reducible refine Kd.C_alloc ?_ _) | (with_reducible refine Kd.C_drewN ?_ _) | (with_reducible refine Kd.C_drew ?_))); (case side4 => exact (Kd.N_reads' HO317.out).2.1); rintro e w58 ⟨v319, rfl, ho0, hb⟩; refine ⟨_, rfl, ?_⟩; have n0_ := Aside0.mk (Kd.R_below (by (with_reducible repeat (first | apply Kd.R_alloc | apply Kd.R_drewN | apply Kd.R_drew)); exact HO_300001.out) hb); have n1_ := Aside0.mk (Kd.N_elder' (by (with_reducible repeat (first | apply Kd.N_alloc | apply Kd.N_drewN | apply Kd.N_drew)); exact HO317.out) (Kd.R_base ho0) hb); have n2_ := Aside0.mk (Kd.R_lower ho0 (below_size (by repeat (first | (with_reducible first | exact HB.out | apply below_alloc | apply pw_below_drewN | apply below_drew1 | refine below_set ?_ GE299.out) | exact HB.out)))); have n3_ := Aside0.mk (blk_below (g := gb299) (o := .cells #[.int .u8 t295, .slice Ao13 t296.length co13] 41 (0, 0)) (by (with_reducible repeat (first | refine blk_drewN ?_ _ | refine blk_drew ?_ | refine blk_alloc ?_ _)); exact BK299.out) hb); have n4_ := Aside0.mk (below_step (by repeat (first | (with_reducible first | exact HB.out | apply below_alloc | apply pw_below_drewN | apply below_drew1 | refine below_set ?_ GE299.out) | exact HB.out)) hb); clear HO_300001; clear HO317; clear BK299; clear HB; have HO_300001 := n0_; have HO317 := n1_; have HO320 := n2_; have BK299 := n3_; have HB := n4_; clear n0_ n1_ n2_ n3_ n4_; (try clear hb); (try clear hb2); (try clear hk); (try clear hi); (try clear ho0)))
      go_ret2
      exact ⟨_, by first | rfl | (simp [errW_none, errW_some] <;> rfl) | (simp [*, errW_none, errW_some] <;> rfl), by (with_reducible repeat (first | apply Kd.R_alloc | apply Kd.R_drewN | apply Kd.R_drew)); exact HO320.out, by repeat (first | (with_reducible first | exact HB.out | apply below_alloc | apply pw_below_drewN | apply below_drew1 | refine below_set ?_ GE299.out) | exact HB.out)⟩
  ·rw [if_neg c9] at H
   have c9b0 : ((l1.length : Int) == (t296.length : Int)) = false := beq_eq_false_iff_ne.mpr c9
   have c9b1 : ((l1.length : Int) != (t296.length : Int)) = true := bne_iff_ne.mpr c9
   have c9b2 : (l1.length == t296.length) = false := by first | simpa using c9 | (simp at c9 ⊢; omega)
   simp only [Option.some.injEq, Prod.mk.injEq] at H
   obtain ⟨rfl, rfl⟩ := H
   go_enter Tryd.func5, Tryd.ntmps5
   go_wp2_with (first | ((with_reducible refine gate_callee (f := 8) rfl ?_); refine goesL_ (some 13) rfl rfl Tryd.func8 (by kernel_rfl) rfl #[.int .i64 a0] rfl (by (try simp only [List.map_toArray, List.map_cons, List.map_nil]); first | done | rfl | (simp only [List.length_drop, List.length_take]; rfl)) ?_; (with_reducible refine (msgs_shapeOf.calls a0 t295 t296 _ A3.out).mono ?_); rintro e w59 ⟨v297, rfl, ho0, hb⟩; refine ⟨_, rfl, ?_⟩; have n0_ := Aside0.mk (Kd.R_lower ho0 (below_size (by repeat (first | (with_reducible first | exact HB.out | apply below_alloc | apply pw_below_drewN | apply below_drew1) | exact HB.out)))); have n1_ := Aside0.mk (below_step (by repeat (first | (with_reducible first | exact HB.out | apply below_alloc | apply pw_below_drewN | apply below_drew1) | exact HB.out)) hb); clear HB; have HO298 := n0_; have HB := n1_; clear n0_ n1_; (try clear hb); (try clear hb2); (try clear hk); (try clear hi); (try clear ho0)) | ((with_reducible refine gate_dst (N := 6) rfl ?_); refine box_event ?hg (N := 6) ?hd (cs := #[.int .u8 0, .slice none 0 0]) (t := 41) ?hr ?_; (case hd => rfl); (case hg => rfl); (case hr => first | (go_simp; done) | (go_simp; rfl)); intro gb299 hg w60 hbox hb; have n0_ := Aside0.mk (Kd.R_below (by (with_reducible repeat (first | apply Kd.R_alloc | apply Kd.R_drewN | apply Kd.R_drew)); exact HO298.out) hb); have n1_ := Aside0.mk (below_step (by repeat (first | (with_reducible first | exact HB.out | apply below_alloc | apply pw_below_drewN | apply below_drew1) | exact HB.out)) hb); have n2_ := Aside0.mk (hbox); have n3_ := Aside0.mk ((by rw [hg]; exact (below_size (by repeat (first | (with_reducible first | exact HB.out | apply below_alloc | apply pw_below_drewN | apply below_drew1) | exact HB.out))) : w.heap.size ≤ gb299)); have n4_ := Aside0.mk ((by rw [hg]; exact (below_size (by repeat (first | (with_reducible first | exact HB.out | apply below_alloc | apply pw_below_drewN | apply below_drew1) | exact HB.out))) : w.heap.size ≤ gb299)); clear HO298; clear HB; have HO298 := n0_; have HB := n1_; have BK299 := n2_; have GW299 := n3_; have GE299 := n4_; clear n0_ n1_ n2_ n3_ n4_; clear hb hbox hg; have hcz61_0 : w60.cell? ⟨gb299, 0, none⟩ = some (.int .u8 0) := (blk_cell BK299.out 0).trans rfl; have hcz61_1 : w60.cell? ⟨gb299, 1, none⟩ = some (.slice none 0 0) := (blk_cell BK299.out 1).trans rfl; have hfz61_0 := blk_frozen BK299.out 0; have hfz61_1 := blk_frozen BK299.out 1; obtain ⟨Ao62, co62, eo62⟩ := Kd.R_slice HO298.out; subst eo62))
   go_ret2
   exact ⟨_, by first | rfl | (simp [errW_none, errW_some] <;> rfl) | (simp [*, errW_none, errW_some] <;> rfl), by first | exact Kd.R_nil _ _ _ _ _ | exact Kd.N_nil _ _ _ _ _ | exact Kd.V_nil _ _ _ _ _ | exact Kd.Q_nil _ _ _ _ _ | exact Kd.S_nil _ _ _ _ _, by repeat (first | (with_reducible first | exact HB.out | apply below_alloc | apply pw_below_drewN | apply below_drew1 | refine below_set ?_ GE299.out) | exact HB.out)⟩
end Go.Proofs.YtncanijjnhkgbaaDoor.PMsgsUnlike
namespace Go.Proofs.YtncanijjnhkgbaaDoor.PMsgsUnlike
open Go.RowKit Go.Proofs.YtncanijjnhkgbaaDoorW.PrintWords Go.Proofs.YtncanijjnhkgbaaDoorW.PrintLast Go.Proofs.YtncanijjnhkgbaaDoorW.PrintMore
structure SmallP (r : ByteArray) (l : List ByteArray) : Prop where
 len : l.length ≤ 1048576
 size : r.size ≤ 1048576
 all : ∀ s ∈ l, s.size ≤ 1048576
structure Small (v : S37) : Prop where
 lo : -9223372036854775808 ≤ v.f0
 hi : v.f0 ≤ 9223372036854775807
 bytes : v.f1.length ≤ 1048576
 isB : IsB v.f1
 princ : SmallP v.f2.f0 v.f2.f1
 server : SmallP v.f3.f0.f0 v.f3.f0.f1
def stV (c : Int) (v : S37) : Option (Int × List Int × (List (S45)) × Bool) := stateO c v.f0 v.f1 v.f2.f0 v.f2.f1 v.f3.f0.f0 v.f3.f0.f1 v.f3.f1
def partQ (c : Int) (v : S37) : Int × List Int × (List (S45)) × Bool := (stV c v).getD (0, [], [], false)
def partOk (c : Int) (v : S37) : Bool := (partQ c v).2.2.2
def partN (c : Int) (v : S37) : S45 := ⟨(partQ c v).1, (partQ c v).2.1, (partQ c v).2.2.1⟩
theorem Fine.up {h : Nat} {n : S45} (hf : Fine h n) : Fine (h + 1) n := by
 induction hf with
 | leaf h t b hb ho => exact .leaf _ t b hb ho
 | comp h t ks ht hl hn hk ih => exact .comp _ t ks ht hl hn ih
theorem tlvB_max (t : Int) (b : List Int) : (tlvB t b).length ≤ b.length + 4 := by
 unfold tlvB
 rw [List.length_append]
 split
 ·simp; omega
 ·split <;> simp <;> omega
theorem encL_max (ks : List (S45)) (m : Nat) (h : ∀ n ∈ ks, (enc n).length ≤ m) : (encL ks).length ≤ ks.length * m := by
 induction ks with
 | nil => simp [encL]
 | cons n r ih =>
  rw [encL, List.length_append, List.length_cons, Nat.succ_mul]
  have h1 := h n (List.mem_cons_self ..)
  have h2 := ih (fun x hx => h x (List.mem_cons_of_mem _ hx))
  omega
theorem bytesOf_len (s : ByteArray) : (bytesOf s).length = s.size := bytesOf_length s
theorem strB (s : ByteArray) : strOfNums (bytesOf s) = s := strOf_bytesOf s
theorem c48 : compTag 48 := by unfold compTag; decide
theorem c97 : compTag 97 := by unfold compTag; decide
theorem bytesOf_isB (s : ByteArray) : IsB (bytesOf s) := by
 intro x hx
 obtain ⟨b, _, rfl⟩ := List.mem_map.1 hx
 have := b.toNat_lt
 omega
theorem word_fine (s : ByteArray) (h : wordB s = true) : Fine 0 (textN s) ∧ (enc (textN s)).length ≤ 68 := by
 unfold wordB at h
 rw [Bool.and_eq_true, Bool.and_eq_true, decide_eq_true_eq, decide_eq_true_eq] at h
 obtain ⟨⟨h1, h2⟩, h3⟩ := h
 refine ⟨.leaf _ _ _ (by rw [bytesOf_len]; omega) (.inr (.inr (.inr (.inr ⟨rfl, by unfold genB; rw [strB]; exact h3, bytesOf_isB s⟩)))), ?_⟩
 have := tlvB_max 27 (bytesOf s ++ encL [])
 unfold textN
 rw [enc]
 simp only [encL, List.append_nil, bytesOf_len] at this ⊢
 omega
theorem princ_fine (r : ByteArray) (l : List ByteArray) (h : princOk r l = true) : Fine 2 ⟨48, [], princK r l⟩ ∧ (enc ⟨48, [], princK r l⟩).length ≤ 700 := by
 unfold princOk at h
 rw [Bool.and_eq_true, Bool.and_eq_true, Bool.and_eq_true, decide_eq_true_eq, decide_eq_true_eq, List.all_eq_true] at h
 obtain ⟨h1, h2, h3, h4⟩ := h
 have hn : ∀ n ∈ l.map textN, Fine 0 n ∧ (enc n).length ≤ 68 := by
  intro n hn
  obtain ⟨s, hs, rfl⟩ := List.mem_map.1 hn
  exact word_fine s (h2 s hs)
 have hm := encL_max (l.map textN) 68 (fun n h => (hn n h).2)
 rw [List.length_map] at hm
 have hl : (encL (l.map textN)).length ≤ 544 := by
  have : l.length * 68 ≤ 8 * 68 := Nat.mul_le_mul_right _ h4
  omega
 have hL : Fine 1 ⟨48, [], l.map textN⟩ := .comp _ _ _ c48 (by omega) (by rw [List.length_map]; omega) (fun n h => (hn n h).1)
 have hw := word_fine r h1
 have hE : (encL (princK r l)).length ≤ 620 := by
  unfold princK
  rw [encL, encL, encL, enc, List.append_nil, List.length_append, List.nil_append]
  have := tlvB_max 48 (encL (l.map textN))
  omega
 refine ⟨.comp _ _ _ c48 (by omega) (by simp [princK]) ?_, ?_⟩
 ·intro n hn
  simp only [princK, List.mem_cons, List.not_mem_nil, or_false] at hn
  rcases hn with rfl | rfl
  ·exact hw.1.up
  ·exact hL
 ·rw [enc, List.nil_append]
  have := tlvB_max 48 (encL (princK r l))
  omega
theorem hE_isB (n : Int) : IsB (hE n) := by
 intro x hx
 simp only [hE, List.mem_cons, List.not_mem_nil, or_false] at hx
 rcases hx with rfl | rfl | rfl | rfl | rfl | rfl | rfl | rfl <;> omega
theorem leaf_len (t : Int) (b : List Int) : (enc ⟨t, b, []⟩).length ≤ b.length + 4 := by
 rw [enc, encL, List.append_nil]
 exact tlvB_max t b
theorem timeE_len (s : Int) : (timeE s).length ≤ 15 := by
 unfold timeE
 split
 ·rw [List.length_drop]; show 15 - 2 ≤ 15; decide
 ·show 15 ≤ 15; decide
theorem intE_len (n : Int) (h1 : -9223372036854775808 ≤ n) (h2 : n ≤ 9223372036854775807) : (intE n).length ≤ 8 := by
 obtain ⟨m, hm, hI⟩ := intE_spec n h1 h2
 rw [hI.len]
 omega
theorem state_some (c : Int) (v : S37) (hv : Small v) : stV c v = some (partQ c v) := by
 have : ∃ q, stV c v = some q := by
  unfold stV stateO
  by_cases h0 : c = 0
  ·rw [if_pos h0, if_pos ⟨hv.lo, hv.hi⟩]; exact ⟨_, rfl⟩
  rw [if_neg h0]
  by_cases h1 : c = 1
  ·rw [if_pos h1]; exact ⟨_, rfl⟩
  rw [if_neg h1]
  by_cases h2 : c = 2
  ·rw [if_pos h2]; split <;> exact ⟨_, rfl⟩
  rw [if_neg h2]
  by_cases h3 : c = 3
  ·rw [if_pos h3, if_pos hv.bytes]; exact ⟨_, rfl⟩
  rw [if_neg h3]
  by_cases h4 : c = 4
  ·rw [if_pos h4]; split <;> exact ⟨_, rfl⟩
  rw [if_neg h4]
  by_cases h5 : c = 5
  ·rw [if_pos h5]
   unfold princO
   rw [if_pos ⟨hv.princ.len, hv.princ.size, hv.princ.all⟩]
   split <;> exact ⟨_, rfl⟩
  rw [if_neg h5]
  unfold ticketO
  rw [if_pos ⟨hv.server.len, hv.server.size, hv.server.all⟩]
  split <;> exact ⟨_, rfl⟩
 obtain ⟨q, hq⟩ := this
 unfold partQ
 rw [hq]
 rfl
theorem part_fine (c : Int) (v : S37) (hv : Small v) (ho : partOk c v = true) : Fine 4 (partN c v) ∧ (enc (partN c v)).length ≤ 8200 := by
 have hs := state_some c v hv
 unfold partOk at ho
 unfold partN
 generalize partQ c v = q at hs ho
 obtain ⟨t, b, ks, is⟩ := q
 obtain rfl : is = true := ho
 show Fine 4 ⟨t, b, ks⟩ ∧ (enc ⟨t, b, ks⟩).length ≤ 8200
 unfold stV stateO at hs
 by_cases h0 : c = 0
 ·rw [if_pos h0, if_pos ⟨hv.lo, hv.hi⟩] at hs
  simp only [Option.some.injEq, Prod.mk.injEq] at hs
  obtain ⟨rfl, rfl, rfl, _⟩ := hs
  have hl := intE_len v.f0 hv.lo hv.hi
  have := leaf_len 2 (intE v.f0)
  exact ⟨.leaf _ _ _ (by omega) (.inr (.inl ⟨rfl, _, hv.lo, hv.hi, rfl⟩)), by omega⟩
 rw [if_neg h0] at hs
 by_cases h1 : c = 1
 ·rw [if_pos h1] at hs
  simp only [Option.some.injEq, Prod.mk.injEq] at hs
  obtain ⟨rfl, rfl, rfl, _⟩ := hs
  refine ⟨.leaf _ _ _ (by simp) (.inl ⟨rfl, decide (v.f0 = 1), by by_cases h : v.f0 = 1 <;> simp [h]⟩), ?_⟩
  have := leaf_len 1 [if v.f0 = 1 then 255 else 0]
  simp only [List.length_cons, List.length_nil] at this
  omega
 rw [if_neg h1] at hs
 by_cases h2 : c = 2
 ·rw [if_pos h2] at hs
  by_cases hr : -631152000 ≤ v.f0 ∧ v.f0 ≤ 253402300799
  ·rw [if_pos hr] at hs
   simp only [Option.some.injEq, Prod.mk.injEq] at hs
   obtain ⟨rfl, rfl, rfl, _⟩ := hs
   have hl := timeE_len v.f0
   have := leaf_len (timeT v.f0) (timeE v.f0)
   exact ⟨.leaf _ _ _ (by omega) (.inr (.inr (.inr (.inl ⟨by unfold timeT; split <;> simp, _, hr.1, hr.2, rfl, rfl⟩)))), by omega⟩
  ·rw [if_neg hr] at hs
   simp at hs
 rw [if_neg h2] at hs
 by_cases h3 : c = 3
 ·rw [if_pos h3, if_pos hv.bytes] at hs
  simp only [Option.some.injEq, Prod.mk.injEq, Bool.and_eq_true, decide_eq_true_eq] at hs
  obtain ⟨rfl, rfl, rfl, _, hl⟩ := hs
  have := leaf_len 4 v.f1
  exact ⟨.leaf _ _ _ (by omega) (.inr (.inr (.inl ⟨rfl, hv.isB⟩))), by omega⟩
 rw [if_neg h3] at hs
 by_cases h4 : c = 4
 ·rw [if_pos h4] at hs
  by_cases hr : 0 ≤ v.f0 ∧ v.f0 < 281474976710656
  ·rw [if_pos hr] at hs
   simp only [Option.some.injEq, Prod.mk.injEq] at hs
   obtain ⟨rfl, rfl, rfl, _⟩ := hs
   have := leaf_len 4 (hE v.f0)
   have hl : (hE v.f0).length = 8 := rfl
   exact ⟨.leaf _ _ _ (by omega) (.inr (.inr (.inl ⟨rfl, hE_isB _⟩))), by omega⟩
  ·rw [if_neg hr] at hs
   simp at hs
 rw [if_neg h4] at hs
 by_cases h5 : c = 5
 ·rw [if_pos h5] at hs
  unfold princO at hs
  rw [if_pos ⟨hv.princ.len, hv.princ.size, hv.princ.all⟩] at hs
  by_cases hp : princOk v.f2.f0 v.f2.f1 = true
  ·rw [if_pos hp] at hs
   simp only [Option.bind_some, Option.some.injEq, Prod.mk.injEq] at hs
   obtain ⟨rfl, rfl, rfl, _⟩ := hs
   obtain ⟨f1, f2⟩ := princ_fine _ _ hp
   exact ⟨f1.up.up, by omega⟩
  ·rw [if_neg hp] at hs
   simp at hs
 rw [if_neg h5] at hs
 unfold ticketO at hs
 rw [if_pos ⟨hv.server.len, hv.server.size, hv.server.all⟩] at hs
 by_cases hp : princOk v.f3.f0.f0 v.f3.f0.f1 = true ∧ 0 ≤ v.f3.f1 ∧ v.f3.f1 < 281474976710656
 ·rw [if_pos hp] at hs
  simp only [Option.bind_some, Option.some.injEq, Prod.mk.injEq] at hs
  obtain ⟨rfl, rfl, rfl, _⟩ := hs
  obtain ⟨f1, f2⟩ := princ_fine _ _ hp.1
  have hh := leaf_len 4 (hE v.f3.f1)
  have hl : (hE v.f3.f1).length = 8 := rfl
  have e1 : (encL [(⟨48, [], princK v.f3.f0.f0 v.f3.f0.f1⟩ : S45), ⟨4, hE v.f3.f1, []⟩]).length ≤ 712 := by
   rw [encL, encL, encL, List.append_nil, List.length_append]
   omega
  have g1 : Fine 3 ⟨48, [], [(⟨48, [], princK v.f3.f0.f0 v.f3.f0.f1⟩ : S45), ⟨4, hE v.f3.f1, []⟩]⟩ := by
   refine .comp _ _ _ c48 (by omega) (by simp) ?_
   intro n hn
   simp only [List.mem_cons, List.not_mem_nil, or_false] at hn
   rcases hn with rfl | rfl
   ·exact f1
   ·exact .leaf _ _ _ (by omega) (.inr (.inr (.inl ⟨rfl, hE_isB _⟩)))
  have e2 : (encL [(⟨48, [], [(⟨48, [], princK v.f3.f0.f0 v.f3.f0.f1⟩ : S45), ⟨4, hE v.f3.f1, []⟩]⟩ : S45)]).length ≤ 716 := by
   rw [encL, encL, List.append_nil, enc, List.nil_append]
   have := tlvB_max 48 (encL [(⟨48, [], princK v.f3.f0.f0 v.f3.f0.f1⟩ : S45), ⟨4, hE v.f3.f1, []⟩])
   omega
  refine ⟨.comp _ _ _ c97 (by omega) (by simp) ?_, ?_⟩
  ·intro n hn
   simp only [List.mem_cons, List.not_mem_nil, or_false] at hn
   rw [hn]
   exact g1
  ·rw [enc, List.nil_append]
   have := tlvB_max 97 (encL [(⟨48, [], [(⟨48, [], princK v.f3.f0.f0 v.f3.f0.f1⟩ : S45), ⟨4, hE v.f3.f1, []⟩]⟩ : S45)])
   omega
 ·rw [if_neg hp] at hs
  simp at hs
def msgN (t : Int) (cs : List Int) (l : List (S37)) : S45 := ⟨t, [], [⟨48, [], List.zipWith partN cs l⟩]⟩
def allOk (cs : List Int) (l : List (S37)) : Bool := (List.zip cs l).all fun p => partOk p.1 p.2
def putR (a0 : Int) (l : List (S37)) : List Int × Int :=
 if (shapeO a0).1 = 0 then ([], 1) else if l.length = (shapeO a0).2.length then (if allOk (shapeO a0).2 l = true then (enc (msgN (shapeO a0).1 (shapeO a0).2 l), 0) else ([], 181)) else ([], 181)
theorem shape_or (a0 : Int) : (compTag (shapeO a0).1 ∧ (shapeO a0).2.length ≤ 6) ∨ (shapeO a0).1 = 0 := by
 by_cases h1 : a0 = 1
 ·subst h1
  exact .inl ⟨by unfold compTag; decide, by decide⟩
 by_cases h2 : a0 = 2
 ·subst h2
  exact .inl ⟨by unfold compTag; decide, by decide⟩
 by_cases h3 : a0 = 3
 ·subst h3
  exact .inl ⟨by unfold compTag; decide, by decide⟩
 by_cases h4 : a0 = 4
 ·subst h4
  exact .inl ⟨by unfold compTag; decide, by decide⟩
 by_cases h5 : a0 = 5
 ·subst h5
  exact .inl ⟨by unfold compTag; decide, by decide⟩
 by_cases h6 : a0 = 6
 ·subst h6
  exact .inl ⟨by unfold compTag; decide, by decide⟩
 by_cases h7 : a0 = 7
 ·subst h7
  exact .inl ⟨by unfold compTag; decide, by decide⟩
 by_cases h8 : a0 = 8
 ·subst h8
  exact .inl ⟨by unfold compTag; decide, by decide⟩
 by_cases h9 : a0 = 9
 ·subst h9
  exact .inl ⟨by unfold compTag; decide, by decide⟩
 by_cases h10 : a0 = 10
 ·subst h10
  exact .inl ⟨by unfold compTag; decide, by decide⟩
 by_cases h11 : a0 = 11
 ·subst h11
  exact .inl ⟨by unfold compTag; decide, by decide⟩
 by_cases h12 : a0 = 12
 ·subst h12
  exact .inl ⟨by unfold compTag; decide, by decide⟩
 by_cases h13 : a0 = 13
 ·subst h13
  exact .inl ⟨by unfold compTag; decide, by decide⟩
 unfold shapeO
 rw [if_neg h1, if_neg h2, if_neg h3, if_neg h4, if_neg h5, if_neg h6, if_neg h7, if_neg h8, if_neg h9, if_neg h10, if_neg h11, if_neg h12, if_neg h13]
 exact .inr rfl
theorem shape_tag (a0 : Int) (h : (shapeO a0).1 ≠ 0) : compTag (shapeO a0).1 ∧ (shapeO a0).2.length ≤ 6 := (shape_or a0).resolve_right h
theorem msg_fine (t : Int) (cs : List Int) (l : List (S37)) (ht : compTag t) (hc : cs.length ≤ 6) (hl : l.length = cs.length) (hs : ∀ v ∈ l, Small v) (ho : allOk cs l = true) : Fine 6 (msgN t cs l) := by
 have hz : ∀ n ∈ List.zipWith partN cs l, Fine 4 n ∧ (enc n).length ≤ 8200 := by
  intro n hn
  rw [← List.map_uncurry_zip_eq_zipWith] at hn
  obtain ⟨⟨c, v⟩, hp, rfl⟩ := List.mem_map.1 hn
  unfold allOk at ho
  rw [List.all_eq_true] at ho
  exact part_fine c v (hs v (List.of_mem_zip hp).2) (ho _ hp)
 have hn : (List.zipWith partN cs l).length ≤ 6 := by rw [List.length_zipWith]; omega
 have hm := encL_max _ 8200 (fun n h => (hz n h).2)
 have hm2 : (encL (List.zipWith partN cs l)).length ≤ 49200 := by
  have : (List.zipWith partN cs l).length * 8200 ≤ 6 * 8200 := Nat.mul_le_mul_right _ hn
  omega
 have h1 : Fine 5 ⟨48, [], List.zipWith partN cs l⟩ := .comp _ _ _ c48 (by omega) (by omega) (fun n h => (hz n h).1)
 refine .comp _ _ _ ht ?_ (by simp) ?_
 ·rw [encL, encL, enc, List.append_nil, List.nil_append]
  have := tlvB_max 48 (encL (List.zipWith partN cs l))
  omega
 ·intro n hn
  rw [List.mem_singleton] at hn
  rw [hn]
  exact h1
theorem print_some {h : Nat} {n : S45} (hf : Fine h n) (hh : h < 32) : nodes_Print.f n.f0 n.f1 n.f2 = some (enc n, 0) := by
 have he := printed_some hf 0 (by omega)
 have hx : ∃ r k, nodes_printed.f k n.f0 n.f1 n.f2 0 = some r := by
  obtain ⟨k, hk⟩ := he.of
  exact ⟨_, k, hk⟩
 unfold nodes_Print.f
 rw [dif_pos hx]
 obtain ⟨k, hk⟩ := hx.choose_spec
 rw [Ev.one he (nodes_printed.mono _ _ _ _) hk]
theorem rd_part (l : List (S37)) (i : Nat) (h : i < l.length) : rd_T37 l (i : Int) = l[i] := by
 unfold rd_T37
 rw [Int.toNat_natCast, List.getD_eq_getElem?_getD, List.getElem?_eq_getElem h]
 rfl
theorem rd_int (l : List Int) (i : Nat) (h : i < l.length) : rd l (i : Int) = l[i] := by
 unfold rd
 rw [Int.toNat_natCast, List.getD_eq_getElem?_getD, List.getElem?_eq_getElem h]
 rfl
theorem put_loop (t : Int) (cs : List Int) (l : List (S37)) (ht : compTag t) (hc : cs.length ≤ 6) (hl : l.length = cs.length) (hs : ∀ v ∈ l, Small v) :
  ∀ (e i : Nat), i + e = l.length → (∀ j (h1 : j < i) (h2 : j < cs.length) (h3 : j < l.length), partOk cs[j] l[j] = true) →
   Ev (fun k => msgs_Put.l0 k (List.zipWith partN (cs.take i) (l.take i)) l (l.length : Int) (i : Int) t cs) (if allOk cs l = true then (enc (msgN t cs l), 0) else ([], 181))
 | 0, i, hi, hok => by
  have ho : allOk cs l = true := by
   unfold allOk
   rw [List.all_eq_true]
   intro p hp
   obtain ⟨j, hj, rfl⟩ := List.mem_iff_getElem.1 hp
   rw [List.length_zip] at hj
   rw [List.getElem_zip]
   exact hok j (by omega) (by omega) (by omega)
  refine Ev.step ?_
  simp only [msgs_Put.l0]
  refine Ev.neg (by omega) ?_
  rw [List.take_of_length_le (by omega), List.take_of_length_le (by omega), if_pos ho]
  exact Ev.bindP (print_some (msg_fine t cs l ht hc hl hs ho) (by decide)) (Ev.pure rfl)
 | e + 1, i, hi, hok => by
  refine Ev.step ?_
  simp only [msgs_Put.l0]
  refine Ev.pos (by omega) (Ev.pos (by omega) (Ev.pos (by omega) (Ev.pos (by omega) ?_)))
  rw [rd_part l i (by omega), rd_int cs i (by omega)]
  have hst := state_some cs[i] l[i] (hs _ (List.getElem_mem _))
  refine Ev.bindP (x := partQ cs[i] l[i]) hst ?_
  by_cases ho : partOk cs[i] l[i] = true
  ·refine Ev.pos ho (Ev.pos (by rw [List.length_zipWith, List.length_take]; omega) ?_)
   have e2 : wrap64 ((i : Int) + 1) = ((i + 1 : Nat) : Int) := by rw [w64 (by omega) (by omega)]; omega
   rw [e2]
   have ih := put_loop t cs l ht hc hl hs e (i + 1) (by omega) (fun j h1 h2 h3 => by
    by_cases hj : j = i
    ·subst hj; exact ho
    ·exact hok j (by omega) h2 h3)
   rw [List.take_succ_eq_append_getElem (by omega), List.take_succ_eq_append_getElem (by omega), List.zipWith_append (by rw [List.length_take, List.length_take]; omega)] at ih
   exact ih
  ·refine Ev.neg ho (Ev.pure ?_)
   rw [if_neg]
   unfold allOk
   rw [List.all_eq_true]
   intro h
   exact ho (h (cs[i], l[i]) (by
    rw [List.mem_iff_getElem]
    exact ⟨i, by rw [List.length_zip]; omega, by rw [List.getElem_zip]⟩))
theorem put_some (a0 : Int) (l : List (S37)) (hs : ∀ v ∈ l, Small v) : Ev (fun k => msgs_Put.f k a0 l) (putR a0 l) := by
 unfold msgs_Put.f msgs_shapeOf.f putR
 refine Ev.bindP (x := shapeO a0) rfl ?_
 by_cases h0 : (shapeO a0).1 = 0
 ·rw [if_pos h0]
  exact Ev.pos h0 (Ev.pure rfl)
 ·rw [if_neg h0]
  refine Ev.neg h0 ?_
  obtain ⟨ht, hc⟩ := shape_tag a0 h0
  by_cases hl : l.length = (shapeO a0).2.length
  ·rw [if_pos hl]
   refine Ev.pos (by omega) ?_
   exact put_loop _ _ l ht hc hl hs l.length 0 (by omega) (fun j h => absurd h (Nat.not_lt_zero _))
  ·rw [if_neg hl]
   exact Ev.neg (by omega) (Ev.pure rfl)
end Go.Proofs.YtncanijjnhkgbaaDoor.PMsgsUnlike
namespace Go.Proofs.YtncanijjnhkgbaaDoor.PMsgsUnlike
open Go.RowKit Go.ChangeShapes Go.WideShapes Go.Deep Go.Proofs.YtncanijjnhkgbaaDoorW.PrintWords Go.Proofs.YtncanijjnhkgbaaDoorW.PrintLast Go.Proofs.YtncanijjnhkgbaaDoorW.PrintMore
theorem bulk_one {H : Type} (d : DataW H) : 1 ≤ Rows.uptoBulk d := by
 cases d with
 | lit l => cases l <;> simp [Rows.uptoBulk]
 | nil => simp [Rows.uptoBulk]
 | ptr d => simp [Rows.uptoBulk]
 | slice elems spare => simp [Rows.uptoBulk]
 | agg parts => simp [Rows.uptoBulk]
 | iface t d => simp [Rows.uptoBulk]
 | map entries => simp [Rows.uptoBulk]
 | held h => simp [Rows.uptoBulk]
theorem bulk_part {H : Type} {d : DataW H} {l : List (DataW H)} (h : d ∈ l) : Rows.uptoBulk d ≤ Rows.uptoBulkAll l := by
 induction l with
 | nil => cases h
 | cons x r ih =>
  simp only [Rows.uptoBulkAll]
  cases List.mem_cons.1 h with
  | inl e => subst e; omega
  | inr e => have := ih e; omega
theorem bulk_len {H : Type} (l : List (DataW H)) : l.length ≤ Rows.uptoBulkAll l := by
 induction l with
 | nil => simp [Rows.uptoBulkAll]
 | cons x r ih => have := bulk_one x; simp only [Rows.uptoBulkAll, List.length_cons]; omega
theorem cellsVal : Tryd.prog.cellsOf 37 = 7 := by kernel_rfl
theorem cellsPrinc : Tryd.prog.cellsOf 33 = 2 := by kernel_rfl
theorem cellsTicket : Tryd.prog.cellsOf 35 = 3 := by kernel_rfl
theorem cellsI64 : Tryd.prog.cellsOf 2 = 1 := by kernel_rfl
theorem cellsInt : Tryd.prog.cellsOf 3 = 1 := by kernel_rfl
theorem cellsStr : Tryd.prog.cellsOf 9 = 1 := by kernel_rfl
theorem cellsStrs : Tryd.prog.cellsOf 31 = 1 := by kernel_rfl
theorem cellsBytes : Tryd.prog.cellsOf 25 = 1 := by kernel_rfl
theorem cellsU8 : Tryd.prog.cellsOf 5 = 1 := by kernel_rfl
section
variable {H : Type} {enc : TypeId × Value → H} {w : World} {sp : Nat → Bool} {fuel : Nat} {y : DataW H × List MemPlace}
theorem scalar_nil {α : Type} {f : α → Value} {h1 : ∀ x, (f x).oneCell' = true} : (Kd.scalar f h1).C w none 0 ([] : List α) := ⟨rfl, by decide, fun h => absurd h (by decide)⟩
theorem bytes_reads {v : Value} (h : DataW.trod enc Tryd.prog w 0 sp true fuel 25 [v] = some y) (hb : Rows.uptoBulk y.1 ≤ 1048576) :
  ∃ A l c, v = .slice A l.length c ∧ l.length ≤ c ∧ (Kd.int .u8).C w A l.length l ∧ IsB l ∧ l.length ≤ 1048576 := by
 rcases open_ints Tryd.underlying25 Tryd.underlying5 cellsU8 h with ⟨h1, h2⟩ | ⟨a, len, cap, zs, h1, _, h2, h3, h4, h5, h6, h7⟩
 ·injection h1 with h1
  exact ⟨none, [], 0, h1, Nat.le_refl _, scalar_nil, (fun x hx => by cases hx), by decide⟩
 ·injection h1 with h1
  have hz : len ≤ zs.length := by rw [h4]; split <;> omega
  have hl : (zs.take len).length = len := by rw [List.length_take]; omega
  rw [h5] at hb
  have hm : len ≤ 1048576 := by
   have hq := bulk_len (H := H) (lits .u8 (zs.take len))
   have hll : (lits (H := H) .u8 (zs.take len)).length = len := by simp only [lits, List.length_map]; exact hl
   simp only [Rows.uptoBulk] at hb
   omega
  unfold maxLen at h3
  refine ⟨some a, zs.take len, cap, by rw [hl]; exact h1, by omega, ?_, ?_, by omega⟩
  ·refine Kd.C_of_reads (d := (0 : Int)) ⟨rfl, by omega, fun _ => ⟨a, rfl, fun j hj => ?_⟩⟩
   rw [hl] at hj
   rw [h6 j (by omega)]
   simp [List.getD_eq_getElem?_getD, List.getElem?_take, hj]
  ·intro x hx
   have hw := h7 x (List.mem_of_mem_take hx)
   simp [Lit.wf, IntKind.min, IntKind.max, IntKind.bits, IntKind.signed] at hw
   omega
theorem string_reads {v : Value} (h : DataW.trod enc Tryd.prog w 0 sp true fuel 9 [v] = some y) (hb : Rows.uptoBulk y.1 ≤ 1048576) : ∃ s : ByteArray, v = .string s ∧ s.size ≤ 1048576 := by
 obtain ⟨s, h1, h2, _⟩ := DataW.trod_string Tryd.underlying9 h
 injection h1 with h1
 rw [h2] at hb
 simp only [Rows.uptoBulk] at hb
 have : s.data.toList.length = s.size := Array.length_toList
 exact ⟨s, h1, by omega⟩
theorem strs_reads {v : Value} (h : DataW.trod enc Tryd.prog w 0 sp true fuel 31 [v] = some y) (hb : Rows.uptoBulk y.1 ≤ 1048576) :
  ∃ A l c, v = .slice A l.length c ∧ l.length ≤ c ∧ Kd.string.C w A l.length l ∧ (∀ s ∈ l, s.size ≤ 1048576) ∧ l.length ≤ 1048576 := by
 rcases open_strs Tryd.underlying31 Tryd.underlying9 cellsStr h with ⟨h1, h2⟩ | ⟨a, len, cap, m, Sx, h1, _, h2, h3, h4, h5, h6⟩
 ·injection h1 with h1
  exact ⟨none, [], 0, h1, Nat.le_refl _, scalar_nil, (fun x hx => by cases hx), by decide⟩
 ·injection h1 with h1
  have hm : len ≤ m := by rw [h4]; split <;> omega
  rw [h5] at hb
  simp only [Rows.uptoBulk] at hb
  have hl : ((List.range len).map Sx).length = len := by simp
  have hq := bulk_len (H := H) ((List.range len).map fun i => DataW.lit (.string (Sx i).data.toList))
  rw [List.length_map, List.length_range] at hq
  unfold maxLen at h3
  refine ⟨some a, (List.range len).map Sx, cap, by rw [hl]; exact h1, by omega, ?_, ?_, by omega⟩
  ·refine Kd.C_of_reads (d := ByteArray.empty) ⟨rfl, by omega, fun _ => ⟨a, rfl, fun j hj => ?_⟩⟩
   rw [hl] at hj
   rw [(h6 j (by omega)).1]
   simp [List.getD_eq_getElem?_getD, hj]
  ·intro s hs
   obtain ⟨i, hi, rfl⟩ := List.mem_map.1 hs
   have hp := bulk_part (H := H) (d := DataW.lit (.string (Sx i).data.toList)) (l := (List.range len).map fun i => DataW.lit (.string (Sx i).data.toList)) (List.mem_map.2 ⟨i, hi, rfl⟩)
   simp only [Rows.uptoBulk] at hp
   have : (Sx i).data.toList.length = (Sx i).size := Array.length_toList
   omega
theorem i64_reads {v : Value} (h : DataW.trod enc Tryd.prog w 0 sp true fuel 2 [v] = some y) : ∃ n, v = .int .i64 n ∧ -9223372036854775808 ≤ n ∧ n ≤ 9223372036854775807 := by
 obtain ⟨n, h1, _, hw⟩ := DataW.trod_int Tryd.underlying2 h
 injection h1 with h1
 simp [Lit.wf, IntKind.min, IntKind.max, IntKind.bits, IntKind.signed] at hw
 exact ⟨n, h1, by omega, by omega⟩
theorem int_reads {v : Value} (h : DataW.trod enc Tryd.prog w 0 sp true fuel 3 [v] = some y) : ∃ n, v = .int .i64 n := by
 obtain ⟨n, h1, _, hw⟩ := DataW.trod_int Tryd.underlying3 h
 injection h1 with h1
 exact ⟨n, h1⟩
theorem princ_reads {v0 v1 : Value} (h : DataW.trod enc Tryd.prog w 0 sp true fuel 33 [v0, v1] = some y) (hb : Rows.uptoBulk y.1 ≤ 1048576) :
  ∃ s A l c, v0 = .string s ∧ v1 = .slice A l.length c ∧ l.length ≤ c ∧ Kd.string.C w A l.length l ∧ SmallP s l := by
 obtain ⟨xs, n, _, hx, _, hxl, hf⟩ := DataW.trod_struct Tryd.underlying33 h
 rw [hx] at hb
 match xs, hxl with
 | [y0, y1], _ =>
  have g0 := hf 0 _ rfl
  have g1 := hf 1 _ rfl
  simp [cellsStr, cellsStrs] at g0 g1
  simp only [List.map_cons, List.map_nil, Rows.uptoBulk, Rows.uptoBulkAll] at hb
  obtain ⟨s, hs, h1⟩ := string_reads g0 (by omega)
  obtain ⟨A, l, c, hv, h2, h3, h4, h5⟩ := strs_reads g1 (by omega)
  exact ⟨s, A, l, c, hs, hv, h2, h3, h5, h1, h4⟩
set_option maxRecDepth 100000 in
theorem val_reads {cs : List Value} (h : DataW.trod enc Tryd.prog w 0 sp true fuel 37 cs = some y) (hb : Rows.uptoBulk y.1 ≤ 1048576) : ∃ x : S37, k37.K w x cs ∧ Small x := by
 obtain ⟨xs, n, _, hx, hlen, hxl, hf⟩ := DataW.trod_struct Tryd.underlying37 h
 rw [cellsVal] at hlen
 rw [hx] at hb
 match xs, hxl, cs, hlen with
 | [y0, y1, y2, y3], _, [v0, v1, v2, v3, v4, v5, v6], _ =>
  have g0 := hf 0 _ rfl
  have g1 := hf 1 _ rfl
  have g2 := hf 2 _ rfl
  have g3 := hf 3 _ rfl
  simp [cellsI64, cellsBytes, cellsPrinc, cellsTicket] at g0 g1 g2 g3
  simp only [List.map_cons, List.map_nil, Rows.uptoBulk, Rows.uptoBulkAll] at hb
  obtain ⟨i, rfl, i1, i2⟩ := i64_reads g0
  obtain ⟨A1, l1, c1, rfl, a1, a2, a3, a4⟩ := bytes_reads g1 (by omega)
  obtain ⟨s, A3, l3, c3, rfl, rfl, b1, b2, b3⟩ := princ_reads g2 (by omega)
  obtain ⟨xs', n', _, hx', _, hxl', hf'⟩ := DataW.trod_struct Tryd.underlying35 g3
  match xs', hxl' with
  | [z0, z1], _ =>
   have k0 := hf' 0 _ rfl
   have k1 := hf' 1 _ rfl
   simp [cellsPrinc, cellsInt] at k0 k1
   have hb3 : Rows.uptoBulk z0.1 ≤ Rows.uptoBulk y3.1 := by
    rw [hx']
    simp only [List.map_cons, List.map_nil, Rows.uptoBulk, Rows.uptoBulkAll]
    omega
   obtain ⟨s5, A5, l5, c5, rfl, rfl, d1, d2, d3⟩ := princ_reads k0 (by omega)
   obtain ⟨e, rfl⟩ := int_reads k1
   exact ⟨⟨i, l1, ⟨s, l3⟩, ⟨⟨s5, l5⟩, e⟩⟩, k37_mk w ⟨i, l1, ⟨s, l3⟩, ⟨⟨s5, l5⟩, e⟩⟩ a1 a2 b1 b2 d1 d2, i1, i2, a4, a3, b3, d3⟩
theorem vals_reads {v : Value} {d : DataW H} {p : List MemPlace} (h : DataW.Trod enc Tryd.prog w 0 sp true 23 v d p) (hb : Rows.uptoBulk d ≤ 1048576) (hv : v.cells.toList = [v]) :
  ∃ A l c, v = .slice A l.length c ∧ l.length ≤ c ∧ k37.C w A l.length l ∧ (∀ x ∈ l, Small x) ∧ l.length ≤ 1048576 := by
 obtain ⟨fuel, h⟩ := h
 rw [hv] at h
 rcases open_slice Tryd.underlying23 h with ⟨h1, h2⟩ | ⟨a, len, cap, m, n, D, Pl, h1, _, h2, h3, h4, h5, h6⟩
 ·injection h1 with h1
  exact ⟨none, [], 0, h1, Nat.le_refl _, ⟨rfl, by decide, fun h => absurd h (by decide)⟩, (fun x hx => by cases hx), by decide⟩
 ·injection h1 with h1
  have hm : len ≤ m := by rw [h4]; split <;> omega
  have h5 := congrArg Prod.fst h5
  simp only at h5
  rw [h5] at hb
  simp only [Rows.uptoBulk] at hb
  have hq := bulk_len (H := H) ((List.range len).map D)
  rw [List.length_map, List.length_range] at hq
  unfold maxLen at h3
  have each : ∀ i, i < len → ∃ x : S37, (∃ cs, cs.length = 7 ∧ k37.K w x cs ∧ ∀ j u, cs[j]? = some u → w.cell? (a.add (i * 7 + j)) = some u) ∧ Small x := by
   intro i hi
   obtain ⟨cs, e1, e2⟩ := h6 i (by omega)
   rw [cellsVal] at e1
   obtain ⟨_, hlen, hcell⟩ := World.cells?_some e1
   have hp := bulk_part (H := H) (d := D i) (l := (List.range len).map D) (List.mem_map.2 ⟨i, List.mem_range.2 hi, rfl⟩)
   obtain ⟨x, hx, hs⟩ := val_reads e2 (by show Rows.uptoBulk (D i) ≤ _; omega)
   refine ⟨x, ⟨cs, hlen, hx, fun j u hu => ?_⟩, hs⟩
   have hj : j < 7 := by rw [← hlen]; exact (List.getElem?_eq_some_iff.1 hu).1
   have := hcell j hj
   rw [Go.Deep.add_add] at this
   rw [this, hu]
  obtain ⟨f, hf⟩ : ∃ f : Nat → S37, ∀ i, i < len → (∃ cs, cs.length = 7 ∧ k37.K w (f i) cs ∧ ∀ j u, cs[j]? = some u → w.cell? (a.add (i * 7 + j)) = some u) ∧ Small (f i) := by
   classical
   refine ⟨fun i => if hi : i < len then (each i hi).choose else z37, fun i hi => ?_⟩
   simp only [dif_pos hi]
   exact (each i hi).choose_spec
  have hl : ((List.range len).map f).length = len := by simp
  refine ⟨some a, (List.range len).map f, cap, by rw [hl]; exact h1, by omega, ⟨rfl, by omega, fun _ => ⟨a, rfl, fun j p hp => ?_⟩⟩, ?_, by omega⟩
  ·obtain ⟨hj, hp⟩ := List.getElem?_eq_some_iff.1 hp
   rw [hl] at hj
   rw [List.getElem_map, List.getElem_range] at hp
   obtain ⟨⟨cs, e1, e2, e3⟩, _⟩ := hf j hj
   rw [hp] at e2
   exact ⟨cs, e1, e2, e3⟩
  ·intro x hx
   obtain ⟨i, hi, rfl⟩ := List.mem_map.1 hx
   exact (hf i (List.mem_range.1 hi)).2
end
section
variable {H : Type} {enc : TypeId × Value → H}
set_option maxRecDepth 100000 in
theorem law_post {f : Func} {s : ChangeSpec} {W W' : World} {args : Array Value} {ds gs : List (DataW H)} {ps : List MemPlace} (hW : DataW.Whole enc Tryd.prog f.params.toList s.vars false W args.toList ds gs ps) (hb : Below W.heap.size W W') (hv : s.vars = []) (hsv : (s.fn H (ds ++ gs)).vars = []) (hrt : f.resultTypes = #[4]) (hsr : (s.fn H (ds ++ gs)).results = [.lit (.bool true)])
  (hargs : ∀ sp : Nat → Bool, (∀ p ∈ ps, sp p.block = true) → DataW.TrodAll enc Tryd.prog W' 0 sp true f.params.toList args.toList (s.fn H (ds ++ gs)).args ps) :
  s.post enc Tryd.prog f false true false false W args (.bool true) W' := by
 have hlt : ∀ p ∈ ps, p.block < W.heap.size := fun p hp => hW.lt p hp
 have hres : ∀ (b : Nat) (sp : Nat → Bool) (hd : Bool), DataW.TrodAll enc Tryd.prog W' b sp hd f.resultTypes.toList ((Value.bool true).resultList f.resultTypes.size) (s.fn H (ds ++ gs)).results [] := by
  intro b sp hd
  rw [hrt, hsr]
  exact trodAll_cons_mk (shut_bool Tryd.underlying4 _) trodAll_mk0
 have hvars : ∀ sp : Nat → Bool, DataW.TrodVars enc Tryd.prog W' sp s.vars (s.fn H (ds ++ gs)).vars [] := by
  intro sp
  rw [hv, hsv]
  rfl
 have hsp := fun p hp => decide_eq_true (hlt p hp)
 have hW2 := hW
 obtain ⟨_, _, _, _, _, hz0, _⟩ := hW2
 have hz : ∀ b off, MemPlace.cell b off ∈ ps → W'.frozen? ⟨b, off, none⟩ = false := fun b off hp => (hb.frozen (hlt _ hp)).trans (hz0 b off hp)
 refine ⟨ds, gs, ps, [], ps, [], hW, hres _ _ _, hargs _ hsp, hvars _, World.keptBut_mono (fun p hp => ⟨hp, .inr (.inl hp)⟩) (hb.frame (· ∈ ps)), fun _ => ?_⟩
 refine ⟨ok_one hrt rfl (okWide_bool_mk Tryd.underlying4 _), _, _, ([] ++ ps) ++ [], ⟨[] ++ ps, [], trodAll_append (hargs _ (fun _ _ => rfl)) (hres _ _ _), hvars _, rfl, ?_, fun h => by cases h⟩, ?_⟩
 ·intro b off hp
  exact hz b off (by simpa using hp)
 ·intro p hp _
  simpa using hp
end
end Go.Proofs.YtncanijjnhkgbaaDoor.PMsgsUnlike
namespace Go.Proofs.YtncanijjnhkgbaaDoor.PMsgsUnlike
open Go.RowKit Go.Proofs.YtncanijjnhkgbaaDoorW.PrintWords Go.Proofs.YtncanijjnhkgbaaDoorW.PrintLast Go.Proofs.YtncanijjnhkgbaaDoorW.PrintMore
theorem tlvB_inj {t t' : Int} {b b' r s : List Int} (hb : b.length ≤ 65535) (hb' : b'.length ≤ 65535) (h : tlvB t b ++ r = tlvB t' b' ++ s) : t = t' ∧ b = b' ∧ r = s := by
 have key : ∀ (x y : List Int), b ++ r = b' ++ s → b.length = b'.length → b = b' ∧ r = s := fun _ _ h hl => List.append_inj h hl
 unfold tlvB at h
 by_cases h1 : b.length > 255
 ·rw [if_pos h1] at h
  by_cases g1 : b'.length > 255
  ·rw [if_pos g1] at h
   simp only [List.cons_append, List.nil_append, List.cons.injEq] at h
   obtain ⟨rfl, _, e1, e2, h⟩ := h
   exact ⟨rfl, key [] [] h (by omega)⟩
  ·rw [if_neg g1] at h
   by_cases g2 : b'.length > 127
   ·rw [if_pos g2] at h
    simp only [List.cons_append, List.nil_append, List.cons.injEq] at h
    omega
   ·rw [if_neg g2] at h
    simp only [List.cons_append, List.nil_append, List.cons.injEq] at h
    omega
 ·rw [if_neg h1] at h
  by_cases h2 : b.length > 127
  ·rw [if_pos h2] at h
   by_cases g1 : b'.length > 255
   ·rw [if_pos g1] at h
    simp only [List.cons_append, List.nil_append, List.cons.injEq] at h
    omega
   ·rw [if_neg g1] at h
    by_cases g2 : b'.length > 127
    ·rw [if_pos g2] at h
     simp only [List.cons_append, List.nil_append, List.cons.injEq] at h
     obtain ⟨rfl, _, e2, h⟩ := h
     exact ⟨rfl, key [] [] h (by omega)⟩
    ·rw [if_neg g2] at h
     simp only [List.cons_append, List.nil_append, List.cons.injEq] at h
     omega
  ·rw [if_neg h2] at h
   by_cases g1 : b'.length > 255
   ·rw [if_pos g1] at h
    simp only [List.cons_append, List.nil_append, List.cons.injEq] at h
    omega
   ·rw [if_neg g1] at h
    by_cases g2 : b'.length > 127
    ·rw [if_pos g2] at h
     simp only [List.cons_append, List.nil_append, List.cons.injEq] at h
     omega
    ·rw [if_neg g2] at h
     simp only [List.cons_append, List.nil_append, List.cons.injEq] at h
     obtain ⟨rfl, e2, h⟩ := h
     exact ⟨rfl, key [] [] h (by omega)⟩
theorem leaf_no {t : Int} {b : List Int} (h : leafOk t b) (h2 : compTag t) : False := by
 have := (comp_tag h2).2.1
 rcases leaf_tag h with rfl | rfl | rfl | rfl | rfl | rfl <;> exact this (by decide)
theorem enc_ne (n : S45) : enc n ≠ [] := by
 obtain ⟨t, b, ks⟩ := n
 rw [enc]
 unfold tlvB
 split
 ·simp
 ·split <;> simp
theorem encL_inj {ks ks' : List (S45)} (h : ∀ n ∈ ks, ∀ m ∈ ks', ∀ r s, enc n ++ r = enc m ++ s → n = m ∧ r = s) (he : encL ks = encL ks') : ks = ks' := by
 induction ks generalizing ks' with
 | nil =>
  cases ks' with
  | nil => rfl
  | cons m q =>
   rw [encL, encL] at he
   have := List.append_eq_nil_iff.1 he.symm
   exact absurd this.1 (enc_ne m)
 | cons n p ih =>
  cases ks' with
  | nil =>
   rw [encL, encL] at he
   have := List.append_eq_nil_iff.1 he
   exact absurd this.1 (enc_ne n)
  | cons m q =>
   rw [encL, encL] at he
   obtain ⟨rfl, h2⟩ := h n (List.mem_cons_self ..) m (List.mem_cons_self ..) _ _ he
   rw [ih (fun x hx y hy => h x (List.mem_cons_of_mem _ hx) y (List.mem_cons_of_mem _ hy)) h2]
theorem enc_inj {h : Nat} {n : S45} (hf : Fine h n) : ∀ {h' : Nat} {m : S45}, Fine h' m → ∀ r s, enc n ++ r = enc m ++ s → n = m ∧ r = s := by
 induction hf with
 | leaf h t b hb ho =>
  intro h' m hm r s he
  cases hm with
  | leaf _ t' b' hb' ho' =>
   rw [enc, enc, encL, List.append_nil, List.append_nil] at he
   obtain ⟨rfl, rfl, rfl⟩ := tlvB_inj hb hb' he
   exact ⟨rfl, rfl⟩
  | comp h2 t' ks ht hl hn hk =>
   rw [enc, enc, encL, List.append_nil, List.nil_append] at he
   obtain ⟨rfl, _, _⟩ := tlvB_inj hb hl he
   exact (leaf_no ho ht).elim
 | comp h t ks ht hl hn hk ih =>
  intro h' m hm r s he
  cases hm with
  | leaf _ t' b' hb' ho' =>
   rw [enc, enc, encL, List.append_nil, List.nil_append] at he
   obtain ⟨rfl, _, _⟩ := tlvB_inj hl hb' he
   exact (leaf_no ho' ht).elim
  | comp h2 t' ks' ht' hl' hn' hk' =>
   rw [enc, enc, List.nil_append, List.nil_append] at he
   obtain ⟨rfl, hq, rfl⟩ := tlvB_inj hl hl' he
   exact ⟨by rw [encL_inj (fun x hx y hy r s he => ih x hx (hk' y hy) r s he) hq], rfl⟩
theorem tlvB_isB {t : Int} {b : List Int} (ht : 0 ≤ t ∧ t < 256) (hb : IsB b) : IsB (tlvB t b) := by
 intro x hx
 unfold tlvB at hx
 rw [List.mem_append] at hx
 rcases hx with hx | hx
 ·split at hx
  ·simp only [List.mem_cons, List.not_mem_nil, or_false] at hx
   rcases hx with rfl | rfl | rfl | rfl <;> omega
  ·split at hx
   ·simp only [List.mem_cons, List.not_mem_nil, or_false] at hx
    rcases hx with rfl | rfl | rfl <;> omega
   ·simp only [List.mem_cons, List.not_mem_nil, or_false] at hx
    rcases hx with rfl | rfl <;> omega
 ·exact hb x hx
theorem intF_isB : ∀ (k : Nat) (n : Int), IsB (intF k n)
 | 0, n => by
  intro x hx
  simp only [intF, List.mem_cons, List.not_mem_nil, or_false] at hx
  omega
 | k + 1, n => by
  intro x hx
  simp only [intF] at hx
  split at hx
  ·simp only [List.mem_cons, List.not_mem_nil, or_false] at hx
   omega
  ·rw [List.mem_append] at hx
   rcases hx with hx | hx
   ·exact intF_isB k _ x hx
   ·simp only [List.mem_cons, List.not_mem_nil, or_false] at hx
    omega
theorem timeL_isB (s : Int) (h1 : -631152000 ≤ s) (h2 : s ≤ 253402300799) : IsB (timeL s) := by
 obtain ⟨n, hn⟩ : ∃ n, n = s + 631152000 := ⟨_, rfl⟩
 obtain ⟨D, hD⟩ : ∃ D, D = n / 86400 - 7305 + 719468 := ⟨_, rfl⟩
 obtain ⟨by1, by2, bm1, bm2, bd1, bd2⟩ := civ_bounds D (by omega) (by omega)
 have hLd : timeL s = [civY D / 1000 + 48, civY D / 100 % 10 + 48, civY D % 100 / 10 + 48, civY D % 100 % 10 + 48, civM D / 10 + 48, civM D % 10 + 48, civD D / 10 + 48, civD D % 10 + 48, n % 86400 / 3600 / 10 + 48, n % 86400 / 3600 % 10 + 48, n % 86400 / 60 % 60 / 10 + 48, n % 86400 / 60 % 60 % 10 + 48, n % 86400 % 60 / 10 + 48, n % 86400 % 60 % 10 + 48, 90] := by rw [hD, hn]; rfl
 rw [hLd]
 intro x hx
 simp only [List.mem_cons, List.not_mem_nil, or_false] at hx
 rcases hx with rfl | rfl | rfl | rfl | rfl | rfl | rfl | rfl | rfl | rfl | rfl | rfl | rfl | rfl | rfl <;> omega
theorem leaf_isB {t : Int} {b : List Int} (h : leafOk t b) : IsB b ∧ 0 ≤ t ∧ t < 256 := by
 refine ⟨?_, by rcases leaf_tag h with rfl | rfl | rfl | rfl | rfl | rfl <;> decide⟩
 rcases h with ⟨rfl, x, rfl⟩ | ⟨rfl, n, h1, h2, rfl⟩ | ⟨rfl, h⟩ | ⟨ht, s, h1, h2, h3, rfl⟩ | ⟨rfl, _, h⟩
 ·intro y hy
  rw [List.mem_singleton] at hy
  subst hy
  split <;> decide
 ·exact intF_isB _ _
 ·exact h
 ·have hL := timeL_isB s h1 h2
  unfold timeE
  split
  ·exact fun x hx => hL x (List.mem_of_mem_drop hx)
  ·exact hL
 ·exact h
theorem enc_isB {h : Nat} {n : S45} (hf : Fine h n) : IsB (enc n) := by
 induction hf with
 | leaf h t b hb ho =>
  rw [enc, encL, List.append_nil]
  exact tlvB_isB (leaf_isB ho).2 (leaf_isB ho).1
 | comp h t ks ht hl hn hk ih =>
  rw [enc, List.nil_append]
  refine tlvB_isB (comp_tag ht).2.2.2.2 ?_
  intro x hx
  rw [encL_flat, List.mem_flatten] at hx
  obtain ⟨l, hl, hx⟩ := hx
  obtain ⟨n, hn, rfl⟩ := List.mem_map.1 hl
  exact ih n hn x hx
theorem strOf_inj {l l' : List Int} (h : IsB l) (h' : IsB l') (he : (strOfNums l).toList = (strOfNums l').toList) : l = l' := by
 rw [Lib.strOfNums_toList, Lib.strOfNums_toList] at he
 unfold Lib.bytesOf at he
 have hl : l.length = l'.length := by simpa using congrArg List.length he
 apply List.ext_getElem hl
 intro i h1 h2
 have e := congrArg (fun q : List UInt8 => (q[i]?).map UInt8.toNat) he
 have b1 := h _ (List.getElem_mem h1)
 have b2 := h' _ (List.getElem_mem h2)
 simp [List.getElem?_eq_getElem h1, List.getElem?_eq_getElem h2] at e
 omega
end Go.Proofs.YtncanijjnhkgbaaDoor.PMsgsUnlike
namespace Go.Proofs.YtncanijjnhkgbaaDoor.PMsgsUnlike
open Go.RowKit Go.Proofs.YtncanijjnhkgbaaDoorW.PrintWords Go.Proofs.YtncanijjnhkgbaaDoorW.PrintLast Go.Proofs.YtncanijjnhkgbaaDoorW.PrintMore
theorem intE_inj {n n' : Int} (h1 : -9223372036854775808 ≤ n) (h2 : n ≤ 9223372036854775807) (h1' : -9223372036854775808 ≤ n') (h2' : n' ≤ 9223372036854775807) (he : intE n = intE n') : n = n' := by
 obtain ⟨m, hm, hI⟩ := intE_spec n h1 h2
 obtain ⟨m', hm', hI'⟩ := intE_spec n' h1' h2'
 rw [← he] at hI'
 obtain rfl : m = m' := by
  have := hI.len
  have := hI'.len
  omega
 have hd : ∀ i, i ≤ m → n / 256 ^ (m - i) % 256 = n' / 256 ^ (m - i) % 256 := fun i hi => (hI.at_ i hi).symm.trans (hI'.at_ i hi)
 have key : ∀ j, j ≤ m → n / 256 ^ (m - j) = n' / 256 ^ (m - j) := by
  intro j
  induction j with
  | zero =>
   intro _
   have e := hd 0 (Nat.zero_le _)
   have a1 := hI.lo
   have a2 := hI.hi
   have a3 := hI'.lo
   have a4 := hI'.hi
   rw [Nat.sub_zero] at e ⊢
   omega
  | succ j ih =>
   intro hj
   have e := hd (j + 1) hj
   have e2 := ih (by omega)
   have s1 := dg_step n (m - (j + 1))
   have s2 := dg_step n' (m - (j + 1))
   rw [show m - (j + 1) + 1 = m - j by omega] at s1 s2
   omega
 have := key m (Nat.le_refl _)
 rwa [Nat.sub_self, Int.pow_zero, Int.ediv_one, Int.ediv_one] at this
theorem time_inj {s s' : Int} (h1 : -631152000 ≤ s) (h2 : s ≤ 253402300799) (h1' : -631152000 ≤ s') (h2' : s' ≤ 253402300799) (hT : timeT s = timeT s') (hE : timeE s = timeE s') : s = s' := by
 obtain ⟨n, hn⟩ : ∃ n, n = s + 631152000 := ⟨_, rfl⟩
 obtain ⟨D, hD⟩ : ∃ D, D = n / 86400 - 7305 + 719468 := ⟨_, rfl⟩
 obtain ⟨n', hn'⟩ : ∃ n, n = s' + 631152000 := ⟨_, rfl⟩
 obtain ⟨D', hD'⟩ : ∃ D, D = n' / 86400 - 7305 + 719468 := ⟨_, rfl⟩
 obtain ⟨y1, y2, m1, m2, d1, d2⟩ := civ_bounds D (by omega) (by omega)
 obtain ⟨y1', y2', m1', m2', d1', d2'⟩ := civ_bounds D' (by omega) (by omega)
 have k1 := civ_day D (by omega) (by omega)
 have k2 := civ_day D' (by omega) (by omega)
 have hTd : timeT s = if civY D < 2050 then 23 else 24 := by rw [hD, hn]; rfl
 have hTd' : timeT s' = if civY D' < 2050 then 23 else 24 := by rw [hD', hn']; rfl
 have hLd : timeL s = [civY D / 1000 + 48, civY D / 100 % 10 + 48, civY D % 100 / 10 + 48, civY D % 100 % 10 + 48, civM D / 10 + 48, civM D % 10 + 48, civD D / 10 + 48, civD D % 10 + 48, n % 86400 / 3600 / 10 + 48, n % 86400 / 3600 % 10 + 48, n % 86400 / 60 % 60 / 10 + 48, n % 86400 / 60 % 60 % 10 + 48, n % 86400 % 60 / 10 + 48, n % 86400 % 60 % 10 + 48, 90] := by rw [hD, hn]; rfl
 have hLd' : timeL s' = [civY D' / 1000 + 48, civY D' / 100 % 10 + 48, civY D' % 100 / 10 + 48, civY D' % 100 % 10 + 48, civM D' / 10 + 48, civM D' % 10 + 48, civD D' / 10 + 48, civD D' % 10 + 48, n' % 86400 / 3600 / 10 + 48, n' % 86400 / 3600 % 10 + 48, n' % 86400 / 60 % 60 / 10 + 48, n' % 86400 / 60 % 60 % 10 + 48, n' % 86400 % 60 / 10 + 48, n' % 86400 % 60 % 10 + 48, 90] := by rw [hD', hn']; rfl
 have main : civY D = civY D' ∧ civM D = civM D' ∧ civD D = civD D' ∧ n % 86400 = n' % 86400 := by
  unfold timeE at hE
  rw [← hT] at hE hTd'
  rw [hLd, hLd'] at hE
  generalize n % 86400 = r at hE ⊢
  generalize n' % 86400 = r' at hE ⊢
  clear hLd hLd' hD hD' hn hn' k1 k2
  generalize civY D = y at *
  generalize civY D' = y' at *
  generalize civM D = m at *
  generalize civM D' = m' at *
  generalize civD D = d at *
  generalize civD D' = d' at *
  by_cases hy : y < 2050
  ·rw [if_pos hy] at hTd
   rw [if_pos hTd, if_pos hTd] at hE
   have hy' : y' < 2050 := by
    rw [hTd] at hTd'
    by_cases h : y' < 2050
    ·exact h
    ·rw [if_neg h] at hTd'
     omega
   simp only [List.drop_succ_cons, List.drop_zero, List.cons.injEq] at hE
   obtain ⟨e1, e2, e3, e4, e5, e6, e7, e8, e9, e10, e11, e12, _⟩ := hE
   exact ⟨by omega, by omega, by omega, by omega⟩
  ·rw [if_neg hy] at hTd
   rw [if_neg (by rw [hTd]; decide), if_neg (by rw [hTd]; decide)] at hE
   simp only [List.cons.injEq] at hE
   obtain ⟨f1, f2, e1, e2, e3, e4, e5, e6, e7, e8, e9, e10, e11, e12, _⟩ := hE
   exact ⟨by omega, by omega, by omega, by omega⟩
 obtain ⟨a1, a2, a3, a4⟩ := main
 rw [a1, a2, a3, k2] at k1
 have := Option.some.inj k1
 omega
theorem hE_inj {n n' : Int} (h1 : 0 ≤ n) (h2 : n < 281474976710656) (h1' : 0 ≤ n') (h2' : n' < 281474976710656) (he : hE n = hE n') : n = n' := by
 simp only [hE, List.cons.injEq] at he
 omega
theorem bytesOf_inj {s s' : ByteArray} (h : bytesOf s = bytesOf s') : s = s' := by
 rw [← strB s, h, strB]
theorem textN_inj {s s' : ByteArray} (h : textN s = textN s') : s = s' := by
 unfold textN at h
 injection h with _ h _
 exact bytesOf_inj h
theorem princK_inj {r r' : ByteArray} {l l' : List ByteArray} (h : princK r l = princK r' l') : r = r' ∧ l = l' := by
 unfold princK at h
 simp only [List.cons.injEq, S45.mk.injEq, true_and, and_true] at h
 exact ⟨textN_inj h.1, List.map_inj_right (fun _ _ he => textN_inj he) |>.1 h.2⟩
theorem ba_nil {s : ByteArray} (h : s.size = 0) : s = ⟨#[]⟩ := by
 obtain ⟨d⟩ := s
 have : d = #[] := Array.eq_empty_of_size_eq_zero h
 rw [this]
theorem princB_eq {r : ByteArray} {l : List ByteArray} (h : princB r l = true) : r = ⟨#[]⟩ ∧ l = [] := by
 unfold princB at h
 rw [Bool.and_eq_true, decide_eq_true_eq, decide_eq_true_eq] at h
 exact ⟨ba_nil h.1, List.eq_nil_of_length_eq_zero h.2⟩
theorem blank_eq {i : Int} {b : List Int} {r : ByteArray} {l : List ByteArray} {sr : ByteArray} {sl : List ByteArray} {e but : Int} (h : blankB i b r l sr sl e but = true) :
  (i = 0 ∨ but = 105) ∧ (b = [] ∨ but = 111) ∧ ((r = ⟨#[]⟩ ∧ l = []) ∨ but = 112) ∧ ((sr = ⟨#[]⟩ ∧ sl = [] ∧ e = 0) ∨ but = 107) := by
 unfold blankB at h
 simp only [Bool.and_eq_true, Bool.or_eq_true, decide_eq_true_eq] at h
 obtain ⟨h1, h2, h3, h4⟩ := h
 refine ⟨h1, h2.imp_left List.eq_nil_of_length_eq_zero, h3.imp_left princB_eq, h4.imp_left fun h => ?_⟩
 exact ⟨(princB_eq h.1).1, (princB_eq h.1).2, h.2⟩
theorem val_ext {v v' : S37} (h0 : v.f0 = v'.f0) (h1 : v.f1 = v'.f1) (h2 : v.f2.f0 = v'.f2.f0) (h3 : v.f2.f1 = v'.f2.f1) (h4 : v.f3.f0.f0 = v'.f3.f0.f0) (h5 : v.f3.f0.f1 = v'.f3.f0.f1) (h6 : v.f3.f1 = v'.f3.f1) : v = v' := by
 obtain ⟨a, b, ⟨c, d⟩, ⟨⟨e, f⟩, g⟩⟩ := v
 obtain ⟨a', b', ⟨c', d'⟩, ⟨⟨e', f'⟩, g'⟩⟩ := v'
 simp only at h0 h1 h2 h3 h4 h5 h6
 subst h0 h1 h2 h3 h4 h5 h6
 rfl
theorem node_eq {t t' : Int} {b b' : List Int} {ks ks' : List (S45)} (h : (⟨t, b, ks⟩ : S45) = ⟨t', b', ks'⟩) : t = t' ∧ b = b' ∧ ks = ks' := by
 injection h with h1 h2 h3
 exact ⟨h1, h2, h3⟩
theorem part_inj (c : Int) (v v' : S37) (hv : Small v) (hv' : Small v') (ho : partOk c v = true) (ho' : partOk c v' = true) (he : partN c v = partN c v') : v = v' := by
 have hs := state_some c v hv
 have hs' := state_some c v' hv'
 unfold partOk at ho ho'
 unfold partN at he
 generalize partQ c v = q at hs ho he
 generalize partQ c v' = q' at hs' ho' he
 obtain ⟨t, b, ks, is⟩ := q
 obtain ⟨t', b', ks', is'⟩ := q'
 obtain rfl : is = true := ho
 obtain rfl : is' = true := ho'
 obtain ⟨rfl, rfl, rfl⟩ := node_eq he
 clear he
 unfold stV stateO at hs hs'
 by_cases h0 : c = 0
 ·rw [if_pos h0, if_pos ⟨hv.lo, hv.hi⟩] at hs
  rw [if_pos h0, if_pos ⟨hv'.lo, hv'.hi⟩] at hs'
  simp only [Option.some.injEq, Prod.mk.injEq] at hs hs'
  obtain ⟨_, e1, _, hb⟩ := hs
  obtain ⟨_, e2, _, hb'⟩ := hs'
  have hq := blank_eq hb
  have hq' := blank_eq hb'
  simp only [show ¬ (105 : Int) = 111 by decide, show ¬ (105 : Int) = 112 by decide, show ¬ (105 : Int) = 107 by decide, or_false, or_true, true_and] at hq hq'
  exact val_ext (intE_inj hv.lo hv.hi hv'.lo hv'.hi (e1.trans e2.symm)) (hq.1.trans hq'.1.symm) (hq.2.1.1.trans hq'.2.1.1.symm) (hq.2.1.2.trans hq'.2.1.2.symm) (hq.2.2.1.trans hq'.2.2.1.symm) (hq.2.2.2.1.trans hq'.2.2.2.1.symm) (hq.2.2.2.2.trans hq'.2.2.2.2.symm)
 rw [if_neg h0] at hs hs'
 by_cases h1 : c = 1
 ·rw [if_pos h1] at hs hs'
  simp only [Option.some.injEq, Prod.mk.injEq, Bool.and_eq_true, Bool.or_eq_true, decide_eq_true_eq] at hs hs'
  obtain ⟨_, e1, _, hb, hi⟩ := hs
  obtain ⟨_, e2, _, hb', hi'⟩ := hs'
  have hq := blank_eq hb
  have hq' := blank_eq hb'
  simp only [show ¬ (105 : Int) = 111 by decide, show ¬ (105 : Int) = 112 by decide, show ¬ (105 : Int) = 107 by decide, or_false, or_true, true_and] at hq hq'
  have hi2 : v.f0 = v'.f0 := by
   have e := e1.trans e2.symm
   rcases hi with hi | hi <;> rcases hi' with hi' | hi' <;> rw [hi, hi'] at e <;> simp at e <;> omega
  exact val_ext hi2 (hq.1.trans hq'.1.symm) (hq.2.1.1.trans hq'.2.1.1.symm) (hq.2.1.2.trans hq'.2.1.2.symm) (hq.2.2.1.trans hq'.2.2.1.symm) (hq.2.2.2.1.trans hq'.2.2.2.1.symm) (hq.2.2.2.2.trans hq'.2.2.2.2.symm)
 rw [if_neg h1] at hs hs'
 by_cases h2 : c = 2
 ·rw [if_pos h2] at hs hs'
  by_cases hr : -631152000 ≤ v.f0 ∧ v.f0 ≤ 253402300799
  ·by_cases hr' : -631152000 ≤ v'.f0 ∧ v'.f0 ≤ 253402300799
   ·rw [if_pos hr] at hs
    rw [if_pos hr'] at hs'
    simp only [Option.some.injEq, Prod.mk.injEq] at hs hs'
    obtain ⟨t1, e1, _, hb⟩ := hs
    obtain ⟨t2, e2, _, hb'⟩ := hs'
    have hq := blank_eq hb
    have hq' := blank_eq hb'
    simp only [show ¬ (105 : Int) = 111 by decide, show ¬ (105 : Int) = 112 by decide, show ¬ (105 : Int) = 107 by decide, or_false, or_true, true_and] at hq hq'
    exact val_ext (time_inj hr.1 hr.2 hr'.1 hr'.2 (t1.trans t2.symm) (e1.trans e2.symm)) (hq.1.trans hq'.1.symm) (hq.2.1.1.trans hq'.2.1.1.symm) (hq.2.1.2.trans hq'.2.1.2.symm) (hq.2.2.1.trans hq'.2.2.1.symm) (hq.2.2.2.1.trans hq'.2.2.2.1.symm) (hq.2.2.2.2.trans hq'.2.2.2.2.symm)
   ·rw [if_neg hr'] at hs'
    simp at hs'
  ·rw [if_neg hr] at hs
   simp at hs
 rw [if_neg h2] at hs hs'
 by_cases h3 : c = 3
 ·rw [if_pos h3, if_pos hv.bytes] at hs
  rw [if_pos h3, if_pos hv'.bytes] at hs'
  simp only [Option.some.injEq, Prod.mk.injEq, Bool.and_eq_true] at hs hs'
  obtain ⟨_, e1, _, hb, _⟩ := hs
  obtain ⟨_, e2, _, hb', _⟩ := hs'
  have hq := blank_eq hb
  have hq' := blank_eq hb'
  simp only [show ¬ (111 : Int) = 105 by decide, show ¬ (111 : Int) = 112 by decide, show ¬ (111 : Int) = 107 by decide, or_false, or_true, true_and] at hq hq'
  exact val_ext (hq.1.trans hq'.1.symm) (e1.trans e2.symm) (hq.2.1.1.trans hq'.2.1.1.symm) (hq.2.1.2.trans hq'.2.1.2.symm) (hq.2.2.1.trans hq'.2.2.1.symm) (hq.2.2.2.1.trans hq'.2.2.2.1.symm) (hq.2.2.2.2.trans hq'.2.2.2.2.symm)
 rw [if_neg h3] at hs hs'
 by_cases h4 : c = 4
 ·rw [if_pos h4] at hs hs'
  by_cases hr : 0 ≤ v.f0 ∧ v.f0 < 281474976710656
  ·by_cases hr' : 0 ≤ v'.f0 ∧ v'.f0 < 281474976710656
   ·rw [if_pos hr] at hs
    rw [if_pos hr'] at hs'
    simp only [Option.some.injEq, Prod.mk.injEq] at hs hs'
    obtain ⟨_, e1, _, hb⟩ := hs
    obtain ⟨_, e2, _, hb'⟩ := hs'
    have hq := blank_eq hb
    have hq' := blank_eq hb'
    simp only [show ¬ (105 : Int) = 111 by decide, show ¬ (105 : Int) = 112 by decide, show ¬ (105 : Int) = 107 by decide, or_false, or_true, true_and] at hq hq'
    exact val_ext (hE_inj hr.1 hr.2 hr'.1 hr'.2 (e1.trans e2.symm)) (hq.1.trans hq'.1.symm) (hq.2.1.1.trans hq'.2.1.1.symm) (hq.2.1.2.trans hq'.2.1.2.symm) (hq.2.2.1.trans hq'.2.2.1.symm) (hq.2.2.2.1.trans hq'.2.2.2.1.symm) (hq.2.2.2.2.trans hq'.2.2.2.2.symm)
   ·rw [if_neg hr'] at hs'
    simp at hs'
  ·rw [if_neg hr] at hs
   simp at hs
 rw [if_neg h4] at hs hs'
 by_cases h5 : c = 5
 ·rw [if_pos h5] at hs hs'
  unfold princO at hs hs'
  rw [if_pos ⟨hv.princ.len, hv.princ.size, hv.princ.all⟩] at hs
  rw [if_pos ⟨hv'.princ.len, hv'.princ.size, hv'.princ.all⟩] at hs'
  by_cases hp : princOk v.f2.f0 v.f2.f1 = true
  ·by_cases hp' : princOk v'.f2.f0 v'.f2.f1 = true
   ·rw [if_pos hp] at hs
    rw [if_pos hp'] at hs'
    simp only [Option.bind_some, Option.some.injEq, Prod.mk.injEq, decide_true, Bool.true_and] at hs hs'
    obtain ⟨_, _, e1, hb⟩ := hs
    obtain ⟨_, _, e2, hb'⟩ := hs'
    have hq := blank_eq hb
    have hq' := blank_eq hb'
    simp only [show ¬ (112 : Int) = 105 by decide, show ¬ (112 : Int) = 111 by decide, show ¬ (112 : Int) = 107 by decide, or_false, or_true, true_and] at hq hq'
    obtain ⟨p1, p2⟩ := princK_inj (e1.trans e2.symm)
    exact val_ext (hq.1.trans hq'.1.symm) (hq.2.1.trans hq'.2.1.symm) p1 p2 (hq.2.2.1.trans hq'.2.2.1.symm) (hq.2.2.2.1.trans hq'.2.2.2.1.symm) (hq.2.2.2.2.trans hq'.2.2.2.2.symm)
   ·rw [if_neg hp'] at hs'
    simp at hs'
  ·rw [if_neg hp] at hs
   simp at hs
 rw [if_neg h5] at hs hs'
 unfold ticketO at hs hs'
 rw [if_pos ⟨hv.server.len, hv.server.size, hv.server.all⟩] at hs
 rw [if_pos ⟨hv'.server.len, hv'.server.size, hv'.server.all⟩] at hs'
 by_cases hp : princOk v.f3.f0.f0 v.f3.f0.f1 = true ∧ 0 ≤ v.f3.f1 ∧ v.f3.f1 < 281474976710656
 ·by_cases hp' : princOk v'.f3.f0.f0 v'.f3.f0.f1 = true ∧ 0 ≤ v'.f3.f1 ∧ v'.f3.f1 < 281474976710656
  ·rw [if_pos hp] at hs
   rw [if_pos hp'] at hs'
   simp only [Option.bind_some, Option.some.injEq, Prod.mk.injEq, decide_true, Bool.true_and] at hs hs'
   obtain ⟨_, _, e1, hb⟩ := hs
   obtain ⟨_, _, e2, hb'⟩ := hs'
   have hq := blank_eq hb
   have hq' := blank_eq hb'
   simp only [show ¬ (107 : Int) = 105 by decide, show ¬ (107 : Int) = 111 by decide, show ¬ (107 : Int) = 112 by decide, or_false, or_true, and_true] at hq hq'
   have e := e1.trans e2.symm
   simp only [List.cons.injEq, S45.mk.injEq, true_and, and_true] at e
   obtain ⟨p1, p2⟩ := princK_inj e.1
   exact val_ext (hq.1.trans hq'.1.symm) (hq.2.1.trans hq'.2.1.symm) (hq.2.2.1.trans hq'.2.2.1.symm) (hq.2.2.2.trans hq'.2.2.2.symm) p1 p2 (hE_inj hp.2.1 hp.2.2 hp'.2.1 hp'.2.2 e.2)
  ·rw [if_neg hp'] at hs'
   simp at hs'
 ·rw [if_neg hp] at hs
  simp at hs
end Go.Proofs.YtncanijjnhkgbaaDoor.PMsgsUnlike
