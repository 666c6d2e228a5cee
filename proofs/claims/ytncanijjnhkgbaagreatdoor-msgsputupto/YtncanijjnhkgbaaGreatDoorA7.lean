/- The law MsgsPut answers true for all arguments, and leaves them as they were. Conditions: the arguments and the listed tables (unicode/utf8.acceptRanges, unicode/utf8.first, as the text lays them) are together of bulk at most 1048576. -/
import Derived.Test.YtncanijjnhkgbaaGreatDoorA5
import Derived.Test.YtncanijjnhkgbaaGreatDoorA3
import Derived.Test.YtncanijjnhkgbaaGreatDoorA4
import Derived.Test.YtncanijjnhkgbaaGreatDoorA6
import Derived.KernelRfl
import Derived.Test.YtncanijjnhkgbaaGreatDoorCards
import Derived.Test.YtncanijjnhkgbaaGreatDoorTie
set_option linter.unusedVariables false
set_option linter.unusedSimpArgs false
namespace Go.Proofs.YtncanijjnhkgbaaGreatDoor.PMsgsPut
open Go.RowKit Go.Proofs.YtncanijjnhkgbaaGreatDoorW.PrintWords Go.Proofs.YtncanijjnhkgbaaGreatDoorW.PrintLast Go.Proofs.YtncanijjnhkgbaaGreatDoorW.PrintMore
def stT9 : Bool × List (List Nat × List Nat) := (true, [([], []), ([], []), ([1], [1]), ([2], [2]), ([3, 2, 2], [2, 3]), ([2, 4], [2, 4]), ([5, 4], [5]), ([6], [6]), ([7, 6], [6, 7]), ([8, 6], [6, 8]), ([9, 6, 6], [6, 9]), ([10], [10]), ([11, 10], [10, 11]), ([12, 10], [10, 12]), ([10, 13, 6], [6, 10, 13]), ([6, 14], [6, 14]), ([0, 10, 0], [0]), ([15, 16, 0, 1, 2, 3, 4, 5, 6, 7, 8, 9, 10, 11, 12, 13, 14, 15, 16], [15])])
def stB9 : List Nat := [0, 0, 2, 6, 14, 30, 62, 126, 254, 510, 1022, 2046, 4094, 8190, 16382, 32766, 2047, 131071]
theorem st_tab9 : rtab .any (opsOf Tryz.f9 9) = stT9 := by kernel_rfl
theorem st_bits9 : waitsOk stT9.2 stB9 = true := by kernel_rfl
def stT18 : Bool × List (List Nat × List Nat) := (true, [([], []), ([], []), ([1], [1]), ([2], [2]), ([3, 2, 2], [2, 3]), ([2, 4], [2, 4]), ([5, 4], [5]), ([6], [6]), ([7, 6], [6, 7]), ([8, 6], [6, 8]), ([9, 6], [6, 9]), ([6, 10], [6, 10]), ([0, 6, 0], [0]), ([11, 12, 0, 1, 2, 3, 4, 5, 6, 7, 8, 9, 10, 11, 12], [11])])
def stB18 : List Nat := [0, 0, 2, 6, 14, 30, 62, 126, 254, 510, 1022, 2046, 127, 8191]
theorem st_tab18 : rtab .any (opsOf Tryz.f9 18) = stT18 := by kernel_rfl
theorem st_bits18 : waitsOk stT18.2 stB18 = true := by kernel_rfl
set_option maxHeartbeats 8000000 in
set_option maxRecDepth 100000 in
theorem state_bool (T : Int) (body : List Int) (kids : List S44) (i : Int) (Ab : Option Addr) (cb : Nat) (b : List Int) (r : ByteArray) (Al : Option Addr) (cl : Nat) (l : List ByteArray) (sr : ByteArray) (As : Option Addr) (cs : Nat) (sl : List ByteArray) (e : Int) (w : World)
  (hN : ∀ W, Below w.heap.size w W → Calls Tryz.prog 17 #[.iface 4 (.bool (i == 1))] W fun e' w' => ∃ v1 v2 : Value, e' = .returned (.tuple #[.agg #[.int .u8 T, v1, v2], .bool true]) ∧ Kd.V (Kd.int .u8) 5 w' W.heap.size (fun k => W.heap.size ≤ k) v1 body ∧ Kd.V k44 44 w' W.heap.size (fun k => W.heap.size ≤ k) v2 kids ∧ Below W.heap.size W w') :
  Calls Tryz.prog 9 #[anyV 1, .agg #[.int .i64 i, .slice Ab b.length cb, .string r, .slice Al l.length cl, .string sr, .slice As sl.length cs, .int .i64 e]] w fun e' w' => ∃ v1 v2 : Value, e' = .returned (.tuple #[.agg #[.int .u8 T, v1, v2], .bool ((blankB i b r l sr sl e 105 && (decide (i = 0) || decide (i = 1))))]) ∧ Kd.V (Kd.int .u8) 5 w' w.heap.size (fun k => w.heap.size ≤ k) v1 body ∧ Kd.V k44 44 w' w.heap.size (fun k => w.heap.size ≤ k) v2 kids ∧ Below w.heap.size w w' := by
 have PN := Aside0.mk hN
 have PB := Aside0.mk (fun W => blank_105 i Ab cb b r Al cl l sr As cs sl e W)
 have t0 := any_ta1_0
 have t1 := any_ta1_1
 generalize blankB i b r l sr sl e 105 = P at PB ⊢
 generalize b.length = nb at PN PB ⊢
 generalize l.length = nl at PN PB ⊢
 generalize sl.length = ns at PN PB ⊢
 obtain ⟨X, hX⟩ : ∃ X, X = anyV 1 := ⟨_, rfl⟩
 rw [← hX] at t0 t1 ⊢
 clear hX hN
 have PC : P = false ∨ (P = true ∧ i = 0) ∨ (P = true ∧ i = 1) ∨ (P = true ∧ i ≠ 0 ∧ i ≠ 1) := by
  cases P
  ·exact .inl rfl
  ·by_cases h0 : i = 0
   ·exact .inr (.inl ⟨rfl, h0⟩)
   ·by_cases h1 : i = 1
    ·exact .inr (.inr (.inl ⟨rfl, h1⟩))
    ·exact .inr (.inr (.inr ⟨rfl, h0, h1⟩))
 rcases PC with hP | ⟨hP, h0⟩ | ⟨hP, h1⟩ | ⟨hP, h0, h1⟩
 ·skip
  subst hP
  rw [Bool.false_and]
  go_enter Tryz.func9, Tryz.ntmps9
  go_wp2_with (go_at_call 17; refine (PN.out _ (start3_below w #[.int .i64 i, .slice Ab nb cb, .string r, .slice Al nl cl, .string sr, .slice As ns cs, .int .i64 e])).mono ?_; rintro e' w1 ⟨v1, v2, rfl, hV1, hV2, hb⟩; obtain ⟨A1, c1, rfl⟩ := Kd.V_slice hV1; obtain ⟨A2, c2, rfl⟩ := Kd.V_slice hV2; generalize hm1 : body.length = m1 at hV1 ⊢; generalize hm2 : kids.length = m2 at hV2 ⊢; have P1 := Aside0.mk (And.intro hV1 (And.intro hV2 hb)); clear hV1 hV2 hb hm1 hm2)
  obtain ⟨o, ho⟩ : ∃ o, Obj.cells #[.int .u8 T, .slice A1 m1 c1, .slice A2 m2 c2] 44 = o := ⟨_, rfl⟩
  have kb := blk_alloc (blk_below (start3_0 w #[.int .i64 i, .slice Ab nb cb, .string r, .slice Al nl cl, .string sr, .slice As ns cs, .int .i64 e]) P1.out.2.2) o
  have kr := blk_alloc (blk_below (start3_1 w #[.int .i64 i, .slice Ab nb cb, .string r, .slice Al nl cl, .string sr, .slice As ns cs, .int .i64 e]) P1.out.2.2) o
  have kn := blk_new w1 o
  have hlt : w.heap.size + 2 < w1.heap.size := blk_lt (blk_below (start3_2 w #[.int .i64 i, .slice Ab nb cb, .string r, .slice Al nl cl, .string sr, .slice As ns cs, .int .i64 e]) P1.out.2.2)
  have hV1 := Kd.V_alloc P1.out.1 o
  have hV2 := Kd.V_alloc P1.out.2.1 o
  have hB := below_alloc (below_step (start3_below w #[.int .i64 i, .slice Ab nb cb, .string r, .slice Al nl cl, .string sr, .slice As ns cs, .int .i64 e]) P1.out.2.2) o
  rw [ho]
  generalize w1.alloc o = W at kb kr kn hV1 hV2 hB ⊢
  rw [← ho] at kn
  clear ho
  have b0 : W.cell? ⟨w.heap.size, 0, none⟩ = some (.int .i64 i) := (blk_cell kb 0).trans rfl
  have b1 : W.cell? ⟨w.heap.size, 1, none⟩ = some (.slice Ab nb cb) := (blk_cell kb 1).trans rfl
  have b2 : W.cell? ⟨w.heap.size, 2, none⟩ = some (.string r) := (blk_cell kb 2).trans rfl
  have b3 : W.cell? ⟨w.heap.size, 3, none⟩ = some (.slice Al nl cl) := (blk_cell kb 3).trans rfl
  have b4 : W.cell? ⟨w.heap.size, 4, none⟩ = some (.string sr) := (blk_cell kb 4).trans rfl
  have b5 : W.cell? ⟨w.heap.size, 5, none⟩ = some (.slice As ns cs) := (blk_cell kb 5).trans rfl
  have b6 : W.cell? ⟨w.heap.size, 6, none⟩ = some (.int .i64 e) := (blk_cell kb 6).trans rfl
  have x0 : W.cell? ⟨w1.heap.size, 0, none⟩ = some (.int .u8 T) := (blk_cell kn 0).trans rfl
  have x1 : W.cell? ⟨w1.heap.size, 1, none⟩ = some (.slice A1 m1 c1) := (blk_cell kn 1).trans rfl
  have x2 : W.cell? ⟨w1.heap.size, 2, none⟩ = some (.slice A2 m2 c2) := (blk_cell kn 2).trans rfl
  have r0 := (blk_cell kr 0).trans rfl
  have y0 := blk_frozen kr 0
  have r1 := (blk_cell kr 1).trans rfl
  have y1 := blk_frozen kr 1
  have r2 := (blk_cell kr 2).trans rfl
  have y2 := blk_frozen kr 2
  have PK := Aside0.mk (And.intro (fun (w' : World) (hb : Below W.heap.size W w') => blk_below kr hb) (And.intro (fun (w' : World) (hb : Below W.heap.size W w') => blk_below kb hb) (And.intro (fun (w' : World) (hb : Below W.heap.size W w') => blk_below kn hb) (And.intro hV1 (And.intro hV2 hB)))))
  have PW0 := Aside0.mk (And.intro (Below.refl W.heap.size W) kr)
  have hne : w.heap.size + 1 ≠ w1.heap.size := by omega
  have hne2 := hne.symm
  have hne3 : w.heap.size ≠ w1.heap.size := by omega
  have hne4 := hne3.symm
  clear kb kr kn hV1 hV2 hB P1 hlt
  refine start_ (n := 18) (S := fun w' => w'.cell? ⟨w.heap.size, 0, none⟩ = some (.int .i64 i) ∧ w'.cell? ⟨w.heap.size, 1, none⟩ = some (.slice Ab nb cb) ∧ w'.cell? ⟨w.heap.size, 2, none⟩ = some (.string r) ∧ w'.cell? ⟨w.heap.size, 3, none⟩ = some (.slice Al nl cl) ∧ w'.cell? ⟨w.heap.size, 4, none⟩ = some (.string sr) ∧ w'.cell? ⟨w.heap.size, 5, none⟩ = some (.slice As ns cs) ∧ w'.cell? ⟨w.heap.size, 6, none⟩ = some (.int .i64 e) ∧ w'.cell? ⟨w1.heap.size, 0, none⟩ = some (.int .u8 T) ∧ w'.cell? ⟨w1.heap.size, 1, none⟩ = some (.slice A1 m1 c1) ∧ w'.cell? ⟨w1.heap.size, 2, none⟩ = some (.slice A2 m2 c2)) (ds := []) #[false, false, false, false, false, false, false, false, false, false, false, false, false, false, false, false, false, false] (by kernel_rfl) rfl rfl ⟨b0, b1, b2, b3, b4, b5, b6, x0, x1, x2⟩ (fun hHeld => ?_)
  refine with_tabW st_tab9 st_bits9 (fun HT_ HW_ => ?_)
  refine pure_ (i := 1) (N := some 47) (v := ?_) (a' := ?_) #[false, true, false, false, false, false, false, false, false, false, false, false, false, false, false, false, false, false] rfl rfl (any_of HT_.out (by kernel_rfl)) (fun _ _ _ h => h) (Or.inl ⟨by rfl, ?_⟩) ?_ ?_
  rotate_left
  ·intro w'
   go_simp
   with_reducible rfl
  rotate_left
  ·simp only [Act.put, List.setIfInBounds_toArray, List.set_cons_zero, List.set_cons_succ, i64_w, i32_w]
   rfl
  refine pure_ (i := 2) (N := some 48) (v := ?_) (a' := ?_) #[false, true, true, false, false, false, false, false, false, false, false, false, false, false, false, false, false, false] rfl rfl (any_of HT_.out (by kernel_rfl)) (fun _ _ _ h => h) (Or.inl ⟨by rfl, ?_⟩) ?_ ?_
  rotate_left
  ·intro w'
   go_simp
   with_reducible rfl
  rotate_left
  ·simp only [Act.put, List.setIfInBounds_toArray, List.set_cons_zero, List.set_cons_succ, i64_w, i32_w]
   rfl
  refine take_ (i := 0) (N := some 46) (v := ?_) (a' := ?_) #[true, true, true, false, false, false, false, false, false, false, false, false, false, false, false, false, false, false] rfl rfl (take_ofW HT_.out HW_.out (by kernel_rfl)) (fun _ _ _ h => h) (Or.inl ⟨by rfl, ?_⟩) hHeld ?_ ?_
  rotate_left
  ·rintro w' ⟨s0, s1, s2, s3, s4, s5, s6, s7, s8, s9⟩
   go_simp
   with_reducible rfl
  rotate_left
  ·simp only [Act.put, List.setIfInBounds_toArray, List.set_cons_zero, List.set_cons_succ, i64_w, i32_w]
   rfl
  refine take_ (i := 3) (N := some 49) (v := ?_) (a' := ?_) #[true, true, true, true, false, false, false, false, false, false, false, false, false, false, false, false, false, false] rfl rfl (take_ofW HT_.out HW_.out (by kernel_rfl)) (fun _ _ _ h => h) (Or.inl ⟨by rfl, ?_⟩) hHeld ?_ ?_
  rotate_left
  ·rintro w' ⟨s0, s1, s2, s3, s4, s5, s6, s7, s8, s9⟩
   go_simp
   with_reducible rfl
  rotate_left
  ·simp only [Act.put, List.setIfInBounds_toArray, List.set_cons_zero, List.set_cons_succ, i64_w, i32_w]
   rfl
  refine one_ (i := 4) (N := some 50) #[true, true, true, true, true, false, false, false, false, false, false, false, false, false, false, false, false, false] rfl rfl (one_of HT_.out (by kernel_rfl)) (by decide) (fun K hK => ?_)
  refine goes_ Tryz.func18 (by kernel_rfl) rfl #[.agg #[.int .i64 i, .slice Ab nb cb, .string r, .slice Al nl cl, .string sr, .slice As ns cs, .int .i64 e], .int .u8 105] (by rfl) rfl rfl (by (try simp only [List.map_toArray, List.map_cons, List.map_nil]); first | done | rfl) ?_
  refine (PB.out _).mono ?_
  rintro e' w' ⟨rfl, hb⟩; refine ⟨_, rfl, ?_⟩; have hbW : Below W.heap.size W w' := (below_step (below_drew1 (Below.refl _ _)) hb); have kb2 := PK.out.2.1 w' hbW; have kr2 := PK.out.1 w' hbW; have kn2 := PK.out.2.2.1 w' hbW; have b20 := (blk_cell kb2 0).trans rfl; have b21 := (blk_cell kb2 1).trans rfl; have b22 := (blk_cell kb2 2).trans rfl; have b23 := (blk_cell kb2 3).trans rfl; have b24 := (blk_cell kb2 4).trans rfl; have b25 := (blk_cell kb2 5).trans rfl; have b26 := (blk_cell kb2 6).trans rfl; have x20 := (blk_cell kn2 0).trans rfl; have r20 := (blk_cell kr2 0).trans rfl; have y20 := blk_frozen kr2 0; have x21 := (blk_cell kn2 1).trans rfl; have r21 := (blk_cell kr2 1).trans rfl; have y21 := blk_frozen kr2 1; have x22 := (blk_cell kn2 2).trans rfl; have r22 := (blk_cell kr2 2).trans rfl; have y22 := blk_frozen kr2 2; have PW := Aside0.mk (And.intro hbW kr2); clear hb hbW kb2 kr2 kn2
  refine hK.out _ _ ⟨b20, b21, b22, b23, b24, b25, b26, x20, x21, x22⟩ (fun hHeld => ?_)
  clear hK K
  refine norm_ (a' := ?_) ?_ ?_
  rotate_left
  ·show Act.put _ (some 50) _ = _
   simp only [Act.put, List.setIfInBounds_toArray, List.set_cons_zero, List.set_cons_succ, i64_w, i32_w]
   rfl
  refine pure_ (i := 5) (N := some 51) (v := ?_) (a' := ?_) #[true, true, true, true, true, true, false, false, false, false, false, false, false, false, false, false, false, false] rfl rfl (any_of HT_.out (by kernel_rfl)) (fun _ _ _ h => h) (Or.inl ⟨by rfl, ?_⟩) ?_ ?_
  rotate_left
  ·intro w'
   go_simp
   with_reducible rfl
  rotate_left
  ·simp only [Act.put, List.setIfInBounds_toArray, List.set_cons_zero, List.set_cons_succ, i64_w, i32_w]
   rfl
  refine pure_ (i := 6) (N := some 52) (v := ?_) (a' := ?_) #[true, true, true, true, true, true, true, false, false, false, false, false, false, false, false, false, false, false] rfl rfl (any_of HT_.out (by kernel_rfl)) (fun _ _ _ h => h) (Or.inl ⟨by rfl, ?_⟩) ?_ ?_
  rotate_left
  ·intro w'
   go_simp
   with_reducible rfl
  rotate_left
  ·simp only [Act.put, List.setIfInBounds_toArray, List.set_cons_zero, List.set_cons_succ, i64_w, i32_w]
   rfl
  refine pure_ (i := 7) (N := some 53) (v := undef) (a' := ?_) #[true, true, true, true, true, true, true, true, false, false, false, false, false, false, false, false, false, false] rfl rfl (any_of HT_.out (by kernel_rfl)) (fun _ _ _ h => h) (Or.inr ⟨by rfl, rfl⟩) ?_ ?_
  rotate_left
  ·simp only [Act.put, List.setIfInBounds_toArray, List.set_cons_zero, List.set_cons_succ, i64_w, i32_w]
   rfl
  refine pure_ (i := 8) (N := some 54) (v := undef) (a' := ?_) #[true, true, true, true, true, true, true, true, true, false, false, false, false, false, false, false, false, false] rfl rfl (any_of HT_.out (by kernel_rfl)) (fun _ _ _ h => h) (Or.inr ⟨by rfl, rfl⟩) ?_ ?_
  rotate_left
  ·simp only [Act.put, List.setIfInBounds_toArray, List.set_cons_zero, List.set_cons_succ, i64_w, i32_w]
   rfl
  refine pure_ (i := 9) (N := some 55) (v := undef) (a' := ?_) #[true, true, true, true, true, true, true, true, true, true, false, false, false, false, false, false, false, false] rfl rfl (any_of HT_.out (by kernel_rfl)) (fun _ _ _ h => h) (Or.inr ⟨by rfl, rfl⟩) ?_ ?_
  rotate_left
  ·simp only [Act.put, List.setIfInBounds_toArray, List.set_cons_zero, List.set_cons_succ, i64_w, i32_w]
   rfl
  refine pure_ (i := 10) (N := some 56) (v := undef) (a' := ?_) #[true, true, true, true, true, true, true, true, true, true, true, false, false, false, false, false, false, false] rfl rfl (any_of HT_.out (by kernel_rfl)) (fun _ _ _ h => h) (Or.inr ⟨by rfl, rfl⟩) ?_ ?_
  rotate_left
  ·simp only [Act.put, List.setIfInBounds_toArray, List.set_cons_zero, List.set_cons_succ, i64_w, i32_w]
   rfl
  refine pure_ (i := 11) (N := some 57) (v := undef) (a' := ?_) #[true, true, true, true, true, true, true, true, true, true, true, true, false, false, false, false, false, false] rfl rfl (any_of HT_.out (by kernel_rfl)) (fun _ _ _ h => h) (Or.inr ⟨by rfl, rfl⟩) ?_ ?_
  rotate_left
  ·simp only [Act.put, List.setIfInBounds_toArray, List.set_cons_zero, List.set_cons_succ, i64_w, i32_w]
   rfl
  refine pure_ (i := 12) (N := some 58) (v := undef) (a' := ?_) #[true, true, true, true, true, true, true, true, true, true, true, true, true, false, false, false, false, false] rfl rfl (any_of HT_.out (by kernel_rfl)) (fun _ _ _ h => h) (Or.inr ⟨by rfl, rfl⟩) ?_ ?_
  rotate_left
  ·simp only [Act.put, List.setIfInBounds_toArray, List.set_cons_zero, List.set_cons_succ, i64_w, i32_w]
   rfl
  refine pure_ (i := 13) (N := some 59) (v := undef) (a' := ?_) #[true, true, true, true, true, true, true, true, true, true, true, true, true, true, false, false, false, false] rfl rfl (any_of HT_.out (by kernel_rfl)) (fun _ _ _ h => h) (Or.inr ⟨by rfl, rfl⟩) ?_ ?_
  rotate_left
  ·simp only [Act.put, List.setIfInBounds_toArray, List.set_cons_zero, List.set_cons_succ, i64_w, i32_w]
   rfl
  refine pure_ (i := 14) (N := some 60) (v := undef) (a' := ?_) #[true, true, true, true, true, true, true, true, true, true, true, true, true, true, true, false, false, false] rfl rfl (any_of HT_.out (by kernel_rfl)) (fun _ _ _ h => h) (Or.inr ⟨by rfl, rfl⟩) ?_ ?_
  rotate_left
  ·simp only [Act.put, List.setIfInBounds_toArray, List.set_cons_zero, List.set_cons_succ, i64_w, i32_w]
   rfl
  refine pure_ (i := 15) (N := some 61) (v := ?_) (a' := ?_) #[true, true, true, true, true, true, true, true, true, true, true, true, true, true, true, true, false, false] rfl rfl (any_of HT_.out (by kernel_rfl)) (fun _ _ _ h => h) (Or.inl ⟨by rfl, ?_⟩) ?_ ?_
  rotate_left
  ·intro w'
   go_simp
   with_reducible rfl
  rotate_left
  ·simp only [Act.put, List.setIfInBounds_toArray, List.set_cons_zero, List.set_cons_succ, i64_w, i32_w]
   rfl
  refine one_ (i := 16) (N := none) #[true, true, true, true, true, true, true, true, true, true, true, true, true, true, true, true, true, false] rfl rfl (one_of HT_.out (by kernel_rfl)) (by decide) (fun K hK => ?_)
  refine skip_ (w1 := ?_) (by rfl) rfl ?_ ?_
  rotate_left
  ·go_simp
   rfl
  have kb3 := off3 (PK.out.2.1 w' PW.out.1) (show w.heap.size ≠ w.heap.size + 1 by omega) (.int .u8 T) (.slice A1 m1 c1) (.slice A2 m2 c2)
  have kn3 := off3 (PK.out.2.2.1 w' PW.out.1) hne2 (.int .u8 T) (.slice A1 m1 c1) (.slice A2 m2 c2)
  refine hK.out _ _ ⟨(blk_cell kb3 0).trans rfl, (blk_cell kb3 1).trans rfl, (blk_cell kb3 2).trans rfl, (blk_cell kb3 3).trans rfl, (blk_cell kb3 4).trans rfl, (blk_cell kb3 5).trans rfl, (blk_cell kb3 6).trans rfl, (blk_cell kn3 0).trans rfl, (blk_cell kn3 1).trans rfl, (blk_cell kn3 2).trans rfl⟩ (fun hHeld => ?_)
  clear hK K kb3 kn3
  refine pure_ (i := 17) (N := some 5) (v := ?_) (a' := ?_) #[true, true, true, true, true, true, true, true, true, true, true, true, true, true, true, true, true, true] rfl rfl (any_of HT_.out (by kernel_rfl)) (fun _ _ _ h => h) (Or.inl ⟨by rfl, ?_⟩) ?_ ?_
  rotate_left
  ·intro w'
   go_simp
   with_reducible rfl
  rotate_left
  ·simp only [Act.put, List.setIfInBounds_toArray, List.set_cons_zero, List.set_cons_succ, i64_w, i32_w]
   rfl
  refine done_ (done_of HT_.out (by kernel_rfl)) ?_
  go_wp2
  have kf := put3 PW.out.2 (.int .u8 T) (.slice A1 m1 c1) (.slice A2 m2 c2)
  refine bodyPost_ret (results_ct rfl _ _ (w.heap.size + 1) 44 #[.int .u8 T, .slice A1 m1 c1, .slice A2 m2 c2] (0, 0) _ rfl (by first | exact kf | exact blk_drew kf) Tryz.underlying44 rfl (by kernel_rfl)) rfl ?_
  have hk1 : ∀ k, (start3 w #[.int .i64 i, .slice Ab nb cb, .string r, .slice Al nl cl, .string sr, .slice As ns cs, .int .i64 e]).heap.size ≤ k → k ≠ w.heap.size + 1 := fun k hk => by rw [start3_size] at hk; omega
  have hk2 : ∀ k, (start3 w #[.int .i64 i, .slice Ab nb cb, .string r, .slice Al nl cl, .string sr, .slice As ns cs, .int .i64 e]).heap.size ≤ k → w.heap.size ≤ k := fun k hk => by rw [start3_size] at hk; omega
  have q1 := far3 (Kd.V_below PK.out.2.2.2.1 PW.out.1) hk1 (.int .u8 T) (.slice A1 m1 c1) (.slice A2 m2 c2)
  have q2 := far3 (Kd.V_below PK.out.2.2.2.2.1 PW.out.1) hk1 (.int .u8 T) (.slice A1 m1 c1) (.slice A2 m2 c2)
  have q3 := set3 (below_step PK.out.2.2.2.2.2 PW.out.1) (Nat.le_succ w.heap.size) (.int .u8 T) (.slice A1 m1 c1) (.slice A2 m2 c2)
  exact ⟨_, _, rfl, by first | exact Kd.V_mono q1 hk2 | exact Kd.V_drew (Kd.V_mono q1 hk2), by first | exact Kd.V_mono q2 hk2 | exact Kd.V_drew (Kd.V_mono q2 hk2), by first | exact q3 | exact below_drew1 q3⟩
 ·skip
  subst hP h0
  have hr : (true && (decide ((0 : Int) = 0) || decide ((0 : Int) = 1))) = true := rfl
  rw [hr]
  clear hr
  go_enter Tryz.func9, Tryz.ntmps9
  go_wp2_with (go_at_call 17; refine (PN.out _ (start3_below w #[.int .i64 0, .slice Ab nb cb, .string r, .slice Al nl cl, .string sr, .slice As ns cs, .int .i64 e])).mono ?_; rintro e' w1 ⟨v1, v2, rfl, hV1, hV2, hb⟩; obtain ⟨A1, c1, rfl⟩ := Kd.V_slice hV1; obtain ⟨A2, c2, rfl⟩ := Kd.V_slice hV2; generalize hm1 : body.length = m1 at hV1 ⊢; generalize hm2 : kids.length = m2 at hV2 ⊢; have P1 := Aside0.mk (And.intro hV1 (And.intro hV2 hb)); clear hV1 hV2 hb hm1 hm2)
  obtain ⟨o, ho⟩ : ∃ o, Obj.cells #[.int .u8 T, .slice A1 m1 c1, .slice A2 m2 c2] 44 = o := ⟨_, rfl⟩
  have kb := blk_alloc (blk_below (start3_0 w #[.int .i64 0, .slice Ab nb cb, .string r, .slice Al nl cl, .string sr, .slice As ns cs, .int .i64 e]) P1.out.2.2) o
  have kr := blk_alloc (blk_below (start3_1 w #[.int .i64 0, .slice Ab nb cb, .string r, .slice Al nl cl, .string sr, .slice As ns cs, .int .i64 e]) P1.out.2.2) o
  have kn := blk_new w1 o
  have hlt : w.heap.size + 2 < w1.heap.size := blk_lt (blk_below (start3_2 w #[.int .i64 0, .slice Ab nb cb, .string r, .slice Al nl cl, .string sr, .slice As ns cs, .int .i64 e]) P1.out.2.2)
  have hV1 := Kd.V_alloc P1.out.1 o
  have hV2 := Kd.V_alloc P1.out.2.1 o
  have hB := below_alloc (below_step (start3_below w #[.int .i64 0, .slice Ab nb cb, .string r, .slice Al nl cl, .string sr, .slice As ns cs, .int .i64 e]) P1.out.2.2) o
  rw [ho]
  generalize w1.alloc o = W at kb kr kn hV1 hV2 hB ⊢
  rw [← ho] at kn
  clear ho
  have b0 : W.cell? ⟨w.heap.size, 0, none⟩ = some (.int .i64 0) := (blk_cell kb 0).trans rfl
  have b1 : W.cell? ⟨w.heap.size, 1, none⟩ = some (.slice Ab nb cb) := (blk_cell kb 1).trans rfl
  have b2 : W.cell? ⟨w.heap.size, 2, none⟩ = some (.string r) := (blk_cell kb 2).trans rfl
  have b3 : W.cell? ⟨w.heap.size, 3, none⟩ = some (.slice Al nl cl) := (blk_cell kb 3).trans rfl
  have b4 : W.cell? ⟨w.heap.size, 4, none⟩ = some (.string sr) := (blk_cell kb 4).trans rfl
  have b5 : W.cell? ⟨w.heap.size, 5, none⟩ = some (.slice As ns cs) := (blk_cell kb 5).trans rfl
  have b6 : W.cell? ⟨w.heap.size, 6, none⟩ = some (.int .i64 e) := (blk_cell kb 6).trans rfl
  have x0 : W.cell? ⟨w1.heap.size, 0, none⟩ = some (.int .u8 T) := (blk_cell kn 0).trans rfl
  have x1 : W.cell? ⟨w1.heap.size, 1, none⟩ = some (.slice A1 m1 c1) := (blk_cell kn 1).trans rfl
  have x2 : W.cell? ⟨w1.heap.size, 2, none⟩ = some (.slice A2 m2 c2) := (blk_cell kn 2).trans rfl
  have r0 := (blk_cell kr 0).trans rfl
  have y0 := blk_frozen kr 0
  have r1 := (blk_cell kr 1).trans rfl
  have y1 := blk_frozen kr 1
  have r2 := (blk_cell kr 2).trans rfl
  have y2 := blk_frozen kr 2
  have PK := Aside0.mk (And.intro (fun (w' : World) (hb : Below W.heap.size W w') => blk_below kr hb) (And.intro (fun (w' : World) (hb : Below W.heap.size W w') => blk_below kb hb) (And.intro (fun (w' : World) (hb : Below W.heap.size W w') => blk_below kn hb) (And.intro hV1 (And.intro hV2 hB)))))
  have PW0 := Aside0.mk (And.intro (Below.refl W.heap.size W) kr)
  have hne : w.heap.size + 1 ≠ w1.heap.size := by omega
  have hne2 := hne.symm
  have hne3 : w.heap.size ≠ w1.heap.size := by omega
  have hne4 := hne3.symm
  clear kb kr kn hV1 hV2 hB P1 hlt
  refine start_ (n := 18) (S := fun w' => w'.cell? ⟨w.heap.size, 0, none⟩ = some (.int .i64 0) ∧ w'.cell? ⟨w.heap.size, 1, none⟩ = some (.slice Ab nb cb) ∧ w'.cell? ⟨w.heap.size, 2, none⟩ = some (.string r) ∧ w'.cell? ⟨w.heap.size, 3, none⟩ = some (.slice Al nl cl) ∧ w'.cell? ⟨w.heap.size, 4, none⟩ = some (.string sr) ∧ w'.cell? ⟨w.heap.size, 5, none⟩ = some (.slice As ns cs) ∧ w'.cell? ⟨w.heap.size, 6, none⟩ = some (.int .i64 e) ∧ w'.cell? ⟨w1.heap.size, 0, none⟩ = some (.int .u8 T) ∧ w'.cell? ⟨w1.heap.size, 1, none⟩ = some (.slice A1 m1 c1) ∧ w'.cell? ⟨w1.heap.size, 2, none⟩ = some (.slice A2 m2 c2)) (ds := []) #[false, false, false, false, false, false, false, false, false, false, false, false, false, false, false, false, false, false] (by kernel_rfl) rfl rfl ⟨b0, b1, b2, b3, b4, b5, b6, x0, x1, x2⟩ (fun hHeld => ?_)
  refine with_tabW st_tab9 st_bits9 (fun HT_ HW_ => ?_)
  refine pure_ (i := 1) (N := some 47) (v := ?_) (a' := ?_) #[false, true, false, false, false, false, false, false, false, false, false, false, false, false, false, false, false, false] rfl rfl (any_of HT_.out (by kernel_rfl)) (fun _ _ _ h => h) (Or.inl ⟨by rfl, ?_⟩) ?_ ?_
  rotate_left
  ·intro w'
   go_simp
   with_reducible rfl
  rotate_left
  ·simp only [Act.put, List.setIfInBounds_toArray, List.set_cons_zero, List.set_cons_succ, i64_w, i32_w]
   rfl
  refine pure_ (i := 2) (N := some 48) (v := ?_) (a' := ?_) #[false, true, true, false, false, false, false, false, false, false, false, false, false, false, false, false, false, false] rfl rfl (any_of HT_.out (by kernel_rfl)) (fun _ _ _ h => h) (Or.inl ⟨by rfl, ?_⟩) ?_ ?_
  rotate_left
  ·intro w'
   go_simp
   with_reducible rfl
  rotate_left
  ·simp only [Act.put, List.setIfInBounds_toArray, List.set_cons_zero, List.set_cons_succ, i64_w, i32_w]
   rfl
  refine take_ (i := 0) (N := some 46) (v := ?_) (a' := ?_) #[true, true, true, false, false, false, false, false, false, false, false, false, false, false, false, false, false, false] rfl rfl (take_ofW HT_.out HW_.out (by kernel_rfl)) (fun _ _ _ h => h) (Or.inl ⟨by rfl, ?_⟩) hHeld ?_ ?_
  rotate_left
  ·rintro w' ⟨s0, s1, s2, s3, s4, s5, s6, s7, s8, s9⟩
   go_simp
   with_reducible rfl
  rotate_left
  ·simp only [Act.put, List.setIfInBounds_toArray, List.set_cons_zero, List.set_cons_succ, i64_w, i32_w]
   rfl
  refine take_ (i := 3) (N := some 49) (v := ?_) (a' := ?_) #[true, true, true, true, false, false, false, false, false, false, false, false, false, false, false, false, false, false] rfl rfl (take_ofW HT_.out HW_.out (by kernel_rfl)) (fun _ _ _ h => h) (Or.inl ⟨by rfl, ?_⟩) hHeld ?_ ?_
  rotate_left
  ·rintro w' ⟨s0, s1, s2, s3, s4, s5, s6, s7, s8, s9⟩
   go_simp
   with_reducible rfl
  rotate_left
  ·simp only [Act.put, List.setIfInBounds_toArray, List.set_cons_zero, List.set_cons_succ, i64_w, i32_w]
   rfl
  refine one_ (i := 4) (N := some 50) #[true, true, true, true, true, false, false, false, false, false, false, false, false, false, false, false, false, false] rfl rfl (one_of HT_.out (by kernel_rfl)) (by decide) (fun K hK => ?_)
  refine goes_ Tryz.func18 (by kernel_rfl) rfl #[.agg #[.int .i64 0, .slice Ab nb cb, .string r, .slice Al nl cl, .string sr, .slice As ns cs, .int .i64 e], .int .u8 105] (by rfl) rfl rfl (by (try simp only [List.map_toArray, List.map_cons, List.map_nil]); first | done | rfl) ?_
  refine (PB.out _).mono ?_
  rintro e' w' ⟨rfl, hb⟩; refine ⟨_, rfl, ?_⟩; have hbW : Below W.heap.size W w' := (below_step (below_drew1 (Below.refl _ _)) hb); have kb2 := PK.out.2.1 w' hbW; have kr2 := PK.out.1 w' hbW; have kn2 := PK.out.2.2.1 w' hbW; have b20 := (blk_cell kb2 0).trans rfl; have b21 := (blk_cell kb2 1).trans rfl; have b22 := (blk_cell kb2 2).trans rfl; have b23 := (blk_cell kb2 3).trans rfl; have b24 := (blk_cell kb2 4).trans rfl; have b25 := (blk_cell kb2 5).trans rfl; have b26 := (blk_cell kb2 6).trans rfl; have x20 := (blk_cell kn2 0).trans rfl; have r20 := (blk_cell kr2 0).trans rfl; have y20 := blk_frozen kr2 0; have x21 := (blk_cell kn2 1).trans rfl; have r21 := (blk_cell kr2 1).trans rfl; have y21 := blk_frozen kr2 1; have x22 := (blk_cell kn2 2).trans rfl; have r22 := (blk_cell kr2 2).trans rfl; have y22 := blk_frozen kr2 2; have PW := Aside0.mk (And.intro hbW kr2); clear hb hbW kb2 kr2 kn2
  refine hK.out _ _ ⟨b20, b21, b22, b23, b24, b25, b26, x20, x21, x22⟩ (fun hHeld => ?_)
  clear hK K
  refine norm_ (a' := ?_) ?_ ?_
  rotate_left
  ·show Act.put _ (some 50) _ = _
   simp only [Act.put, List.setIfInBounds_toArray, List.set_cons_zero, List.set_cons_succ, i64_w, i32_w]
   rfl
  refine pure_ (i := 5) (N := some 51) (v := ?_) (a' := ?_) #[true, true, true, true, true, true, false, false, false, false, false, false, false, false, false, false, false, false] rfl rfl (any_of HT_.out (by kernel_rfl)) (fun _ _ _ h => h) (Or.inl ⟨by rfl, ?_⟩) ?_ ?_
  rotate_left
  ·intro w'
   go_simp
   with_reducible rfl
  rotate_left
  ·simp only [Act.put, List.setIfInBounds_toArray, List.set_cons_zero, List.set_cons_succ, i64_w, i32_w]
   rfl
  refine pure_ (i := 6) (N := some 52) (v := ?_) (a' := ?_) #[true, true, true, true, true, true, true, false, false, false, false, false, false, false, false, false, false, false] rfl rfl (any_of HT_.out (by kernel_rfl)) (fun _ _ _ h => h) (Or.inl ⟨by rfl, ?_⟩) ?_ ?_
  rotate_left
  ·intro w'
   go_simp
   with_reducible rfl
  rotate_left
  ·simp only [Act.put, List.setIfInBounds_toArray, List.set_cons_zero, List.set_cons_succ, i64_w, i32_w]
   rfl
  refine pure_ (i := 7) (N := some 53) (v := ?_) (a' := ?_) #[true, true, true, true, true, true, true, true, false, false, false, false, false, false, false, false, false, false] rfl rfl (any_of HT_.out (by kernel_rfl)) (fun _ _ _ h => h) (Or.inl ⟨by rfl, ?_⟩) ?_ ?_
  rotate_left
  ·intro w'
   go_simp
   with_reducible rfl
  rotate_left
  ·simp only [Act.put, List.setIfInBounds_toArray, List.set_cons_zero, List.set_cons_succ, i64_w, i32_w]
   rfl
  refine take_ (i := 8) (N := some 54) (v := ?_) (a' := ?_) #[true, true, true, true, true, true, true, true, true, false, false, false, false, false, false, false, false, false] rfl rfl (take_ofW HT_.out HW_.out (by kernel_rfl)) (fun _ _ _ h => h) (Or.inl ⟨by rfl, ?_⟩) hHeld ?_ ?_
  rotate_left
  ·rintro w' ⟨s0, s1, s2, s3, s4, s5, s6, s7, s8, s9⟩
   go_simp
   with_reducible rfl
  rotate_left
  ·simp only [Act.put, List.setIfInBounds_toArray, List.set_cons_zero, List.set_cons_succ, i64_w, i32_w]
   rfl
  refine pure_ (i := 9) (N := some 55) (v := ?_) (a' := ?_) #[true, true, true, true, true, true, true, true, true, true, false, false, false, false, false, false, false, false] rfl rfl (any_of HT_.out (by kernel_rfl)) (fun _ _ _ h => h) (Or.inl ⟨by rfl, ?_⟩) ?_ ?_
  rotate_left
  ·intro w'
   go_simp
   with_reducible rfl
  rotate_left
  ·simp only [Act.put, List.setIfInBounds_toArray, List.set_cons_zero, List.set_cons_succ, i64_w, i32_w]
   rfl
  refine pure_ (i := 10) (N := some 56) (v := ?_) (a' := ?_) #[true, true, true, true, true, true, true, true, true, true, true, false, false, false, false, false, false, false] rfl rfl (any_of HT_.out (by kernel_rfl)) (fun _ _ _ h => h) (Or.inl ⟨by rfl, ?_⟩) ?_ ?_
  rotate_left
  ·intro w'
   go_simp
   with_reducible rfl
  rotate_left
  ·simp only [Act.put, List.setIfInBounds_toArray, List.set_cons_zero, List.set_cons_succ, i64_w, i32_w]
   rfl
  refine pure_ (i := 11) (N := some 57) (v := undef) (a' := ?_) #[true, true, true, true, true, true, true, true, true, true, true, true, false, false, false, false, false, false] rfl rfl (any_of HT_.out (by kernel_rfl)) (fun _ _ _ h => h) (Or.inr ⟨by rfl, rfl⟩) ?_ ?_
  rotate_left
  ·simp only [Act.put, List.setIfInBounds_toArray, List.set_cons_zero, List.set_cons_succ, i64_w, i32_w]
   rfl
  refine pure_ (i := 12) (N := some 58) (v := undef) (a' := ?_) #[true, true, true, true, true, true, true, true, true, true, true, true, true, false, false, false, false, false] rfl rfl (any_of HT_.out (by kernel_rfl)) (fun _ _ _ h => h) (Or.inr ⟨by rfl, rfl⟩) ?_ ?_
  rotate_left
  ·simp only [Act.put, List.setIfInBounds_toArray, List.set_cons_zero, List.set_cons_succ, i64_w, i32_w]
   rfl
  refine pure_ (i := 13) (N := some 59) (v := undef) (a' := ?_) #[true, true, true, true, true, true, true, true, true, true, true, true, true, true, false, false, false, false] rfl rfl (any_of HT_.out (by kernel_rfl)) (fun _ _ _ h => h) (Or.inr ⟨by rfl, rfl⟩) ?_ ?_
  rotate_left
  ·simp only [Act.put, List.setIfInBounds_toArray, List.set_cons_zero, List.set_cons_succ, i64_w, i32_w]
   rfl
  refine pure_ (i := 14) (N := some 60) (v := ?_) (a' := ?_) #[true, true, true, true, true, true, true, true, true, true, true, true, true, true, true, false, false, false] rfl rfl (any_of HT_.out (by kernel_rfl)) (fun _ _ _ h => h) (Or.inl ⟨by rfl, ?_⟩) ?_ ?_
  rotate_left
  ·intro w'
   go_simp
   with_reducible rfl
  rotate_left
  ·simp only [Act.put, List.setIfInBounds_toArray, List.set_cons_zero, List.set_cons_succ, i64_w, i32_w]
   rfl
  refine pure_ (i := 15) (N := some 61) (v := ?_) (a' := ?_) #[true, true, true, true, true, true, true, true, true, true, true, true, true, true, true, true, false, false] rfl rfl (any_of HT_.out (by kernel_rfl)) (fun _ _ _ h => h) (Or.inl ⟨by rfl, ?_⟩) ?_ ?_
  rotate_left
  ·intro w'
   go_simp
   with_reducible rfl
  rotate_left
  ·simp only [Act.put, List.setIfInBounds_toArray, List.set_cons_zero, List.set_cons_succ, i64_w, i32_w]
   rfl
  refine one_ (i := 16) (N := none) #[true, true, true, true, true, true, true, true, true, true, true, true, true, true, true, true, true, false] rfl rfl (one_of HT_.out (by kernel_rfl)) (by decide) (fun K hK => ?_)
  refine skip_ (w1 := ?_) (by rfl) rfl ?_ ?_
  rotate_left
  ·go_simp
   rfl
  have kb3 := off3 (PK.out.2.1 w' PW.out.1) (show w.heap.size ≠ w.heap.size + 1 by omega) (.int .u8 T) (.slice A1 m1 c1) (.slice A2 m2 c2)
  have kn3 := off3 (PK.out.2.2.1 w' PW.out.1) hne2 (.int .u8 T) (.slice A1 m1 c1) (.slice A2 m2 c2)
  refine hK.out _ _ ⟨(blk_cell kb3 0).trans rfl, (blk_cell kb3 1).trans rfl, (blk_cell kb3 2).trans rfl, (blk_cell kb3 3).trans rfl, (blk_cell kb3 4).trans rfl, (blk_cell kb3 5).trans rfl, (blk_cell kb3 6).trans rfl, (blk_cell kn3 0).trans rfl, (blk_cell kn3 1).trans rfl, (blk_cell kn3 2).trans rfl⟩ (fun hHeld => ?_)
  clear hK K kb3 kn3
  refine pure_ (i := 17) (N := some 5) (v := ?_) (a' := ?_) #[true, true, true, true, true, true, true, true, true, true, true, true, true, true, true, true, true, true] rfl rfl (any_of HT_.out (by kernel_rfl)) (fun _ _ _ h => h) (Or.inl ⟨by rfl, ?_⟩) ?_ ?_
  rotate_left
  ·intro w'
   go_simp
   with_reducible rfl
  rotate_left
  ·simp only [Act.put, List.setIfInBounds_toArray, List.set_cons_zero, List.set_cons_succ, i64_w, i32_w]
   rfl
  refine done_ (done_of HT_.out (by kernel_rfl)) ?_
  go_wp2
  have kf := put3 PW.out.2 (.int .u8 T) (.slice A1 m1 c1) (.slice A2 m2 c2)
  refine bodyPost_ret (results_ct rfl _ _ (w.heap.size + 1) 44 #[.int .u8 T, .slice A1 m1 c1, .slice A2 m2 c2] (0, 0) _ rfl (by first | exact kf | exact blk_drew kf) Tryz.underlying44 rfl (by kernel_rfl)) rfl ?_
  have hk1 : ∀ k, (start3 w #[.int .i64 0, .slice Ab nb cb, .string r, .slice Al nl cl, .string sr, .slice As ns cs, .int .i64 e]).heap.size ≤ k → k ≠ w.heap.size + 1 := fun k hk => by rw [start3_size] at hk; omega
  have hk2 : ∀ k, (start3 w #[.int .i64 0, .slice Ab nb cb, .string r, .slice Al nl cl, .string sr, .slice As ns cs, .int .i64 e]).heap.size ≤ k → w.heap.size ≤ k := fun k hk => by rw [start3_size] at hk; omega
  have q1 := far3 (Kd.V_below PK.out.2.2.2.1 PW.out.1) hk1 (.int .u8 T) (.slice A1 m1 c1) (.slice A2 m2 c2)
  have q2 := far3 (Kd.V_below PK.out.2.2.2.2.1 PW.out.1) hk1 (.int .u8 T) (.slice A1 m1 c1) (.slice A2 m2 c2)
  have q3 := set3 (below_step PK.out.2.2.2.2.2 PW.out.1) (Nat.le_succ w.heap.size) (.int .u8 T) (.slice A1 m1 c1) (.slice A2 m2 c2)
  exact ⟨_, _, rfl, by first | exact Kd.V_mono q1 hk2 | exact Kd.V_drew (Kd.V_mono q1 hk2), by first | exact Kd.V_mono q2 hk2 | exact Kd.V_drew (Kd.V_mono q2 hk2), by first | exact q3 | exact below_drew1 q3⟩
 ·skip
  subst hP h1
  have hr : (true && (decide ((1 : Int) = 0) || decide ((1 : Int) = 1))) = true := rfl
  rw [hr]
  clear hr
  go_enter Tryz.func9, Tryz.ntmps9
  go_wp2_with (go_at_call 17; refine (PN.out _ (start3_below w #[.int .i64 1, .slice Ab nb cb, .string r, .slice Al nl cl, .string sr, .slice As ns cs, .int .i64 e])).mono ?_; rintro e' w1 ⟨v1, v2, rfl, hV1, hV2, hb⟩; obtain ⟨A1, c1, rfl⟩ := Kd.V_slice hV1; obtain ⟨A2, c2, rfl⟩ := Kd.V_slice hV2; generalize hm1 : body.length = m1 at hV1 ⊢; generalize hm2 : kids.length = m2 at hV2 ⊢; have P1 := Aside0.mk (And.intro hV1 (And.intro hV2 hb)); clear hV1 hV2 hb hm1 hm2)
  obtain ⟨o, ho⟩ : ∃ o, Obj.cells #[.int .u8 T, .slice A1 m1 c1, .slice A2 m2 c2] 44 = o := ⟨_, rfl⟩
  have kb := blk_alloc (blk_below (start3_0 w #[.int .i64 1, .slice Ab nb cb, .string r, .slice Al nl cl, .string sr, .slice As ns cs, .int .i64 e]) P1.out.2.2) o
  have kr := blk_alloc (blk_below (start3_1 w #[.int .i64 1, .slice Ab nb cb, .string r, .slice Al nl cl, .string sr, .slice As ns cs, .int .i64 e]) P1.out.2.2) o
  have kn := blk_new w1 o
  have hlt : w.heap.size + 2 < w1.heap.size := blk_lt (blk_below (start3_2 w #[.int .i64 1, .slice Ab nb cb, .string r, .slice Al nl cl, .string sr, .slice As ns cs, .int .i64 e]) P1.out.2.2)
  have hV1 := Kd.V_alloc P1.out.1 o
  have hV2 := Kd.V_alloc P1.out.2.1 o
  have hB := below_alloc (below_step (start3_below w #[.int .i64 1, .slice Ab nb cb, .string r, .slice Al nl cl, .string sr, .slice As ns cs, .int .i64 e]) P1.out.2.2) o
  rw [ho]
  generalize w1.alloc o = W at kb kr kn hV1 hV2 hB ⊢
  rw [← ho] at kn
  clear ho
  have b0 : W.cell? ⟨w.heap.size, 0, none⟩ = some (.int .i64 1) := (blk_cell kb 0).trans rfl
  have b1 : W.cell? ⟨w.heap.size, 1, none⟩ = some (.slice Ab nb cb) := (blk_cell kb 1).trans rfl
  have b2 : W.cell? ⟨w.heap.size, 2, none⟩ = some (.string r) := (blk_cell kb 2).trans rfl
  have b3 : W.cell? ⟨w.heap.size, 3, none⟩ = some (.slice Al nl cl) := (blk_cell kb 3).trans rfl
  have b4 : W.cell? ⟨w.heap.size, 4, none⟩ = some (.string sr) := (blk_cell kb 4).trans rfl
  have b5 : W.cell? ⟨w.heap.size, 5, none⟩ = some (.slice As ns cs) := (blk_cell kb 5).trans rfl
  have b6 : W.cell? ⟨w.heap.size, 6, none⟩ = some (.int .i64 e) := (blk_cell kb 6).trans rfl
  have x0 : W.cell? ⟨w1.heap.size, 0, none⟩ = some (.int .u8 T) := (blk_cell kn 0).trans rfl
  have x1 : W.cell? ⟨w1.heap.size, 1, none⟩ = some (.slice A1 m1 c1) := (blk_cell kn 1).trans rfl
  have x2 : W.cell? ⟨w1.heap.size, 2, none⟩ = some (.slice A2 m2 c2) := (blk_cell kn 2).trans rfl
  have r0 := (blk_cell kr 0).trans rfl
  have y0 := blk_frozen kr 0
  have r1 := (blk_cell kr 1).trans rfl
  have y1 := blk_frozen kr 1
  have r2 := (blk_cell kr 2).trans rfl
  have y2 := blk_frozen kr 2
  have PK := Aside0.mk (And.intro (fun (w' : World) (hb : Below W.heap.size W w') => blk_below kr hb) (And.intro (fun (w' : World) (hb : Below W.heap.size W w') => blk_below kb hb) (And.intro (fun (w' : World) (hb : Below W.heap.size W w') => blk_below kn hb) (And.intro hV1 (And.intro hV2 hB)))))
  have PW0 := Aside0.mk (And.intro (Below.refl W.heap.size W) kr)
  have hne : w.heap.size + 1 ≠ w1.heap.size := by omega
  have hne2 := hne.symm
  have hne3 : w.heap.size ≠ w1.heap.size := by omega
  have hne4 := hne3.symm
  clear kb kr kn hV1 hV2 hB P1 hlt
  refine start_ (n := 18) (S := fun w' => w'.cell? ⟨w.heap.size, 0, none⟩ = some (.int .i64 1) ∧ w'.cell? ⟨w.heap.size, 1, none⟩ = some (.slice Ab nb cb) ∧ w'.cell? ⟨w.heap.size, 2, none⟩ = some (.string r) ∧ w'.cell? ⟨w.heap.size, 3, none⟩ = some (.slice Al nl cl) ∧ w'.cell? ⟨w.heap.size, 4, none⟩ = some (.string sr) ∧ w'.cell? ⟨w.heap.size, 5, none⟩ = some (.slice As ns cs) ∧ w'.cell? ⟨w.heap.size, 6, none⟩ = some (.int .i64 e) ∧ w'.cell? ⟨w1.heap.size, 0, none⟩ = some (.int .u8 T) ∧ w'.cell? ⟨w1.heap.size, 1, none⟩ = some (.slice A1 m1 c1) ∧ w'.cell? ⟨w1.heap.size, 2, none⟩ = some (.slice A2 m2 c2)) (ds := []) #[false, false, false, false, false, false, false, false, false, false, false, false, false, false, false, false, false, false] (by kernel_rfl) rfl rfl ⟨b0, b1, b2, b3, b4, b5, b6, x0, x1, x2⟩ (fun hHeld => ?_)
  refine with_tabW st_tab9 st_bits9 (fun HT_ HW_ => ?_)
  refine pure_ (i := 1) (N := some 47) (v := ?_) (a' := ?_) #[false, true, false, false, false, false, false, false, false, false, false, false, false, false, false, false, false, false] rfl rfl (any_of HT_.out (by kernel_rfl)) (fun _ _ _ h => h) (Or.inl ⟨by rfl, ?_⟩) ?_ ?_
  rotate_left
  ·intro w'
   go_simp
   with_reducible rfl
  rotate_left
  ·simp only [Act.put, List.setIfInBounds_toArray, List.set_cons_zero, List.set_cons_succ, i64_w, i32_w]
   rfl
  refine pure_ (i := 2) (N := some 48) (v := ?_) (a' := ?_) #[false, true, true, false, false, false, false, false, false, false, false, false, false, false, false, false, false, false] rfl rfl (any_of HT_.out (by kernel_rfl)) (fun _ _ _ h => h) (Or.inl ⟨by rfl, ?_⟩) ?_ ?_
  rotate_left
  ·intro w'
   go_simp
   with_reducible rfl
  rotate_left
  ·simp only [Act.put, List.setIfInBounds_toArray, List.set_cons_zero, List.set_cons_succ, i64_w, i32_w]
   rfl
  refine take_ (i := 0) (N := some 46) (v := ?_) (a' := ?_) #[true, true, true, false, false, false, false, false, false, false, false, false, false, false, false, false, false, false] rfl rfl (take_ofW HT_.out HW_.out (by kernel_rfl)) (fun _ _ _ h => h) (Or.inl ⟨by rfl, ?_⟩) hHeld ?_ ?_
  rotate_left
  ·rintro w' ⟨s0, s1, s2, s3, s4, s5, s6, s7, s8, s9⟩
   go_simp
   with_reducible rfl
  rotate_left
  ·simp only [Act.put, List.setIfInBounds_toArray, List.set_cons_zero, List.set_cons_succ, i64_w, i32_w]
   rfl
  refine take_ (i := 3) (N := some 49) (v := ?_) (a' := ?_) #[true, true, true, true, false, false, false, false, false, false, false, false, false, false, false, false, false, false] rfl rfl (take_ofW HT_.out HW_.out (by kernel_rfl)) (fun _ _ _ h => h) (Or.inl ⟨by rfl, ?_⟩) hHeld ?_ ?_
  rotate_left
  ·rintro w' ⟨s0, s1, s2, s3, s4, s5, s6, s7, s8, s9⟩
   go_simp
   with_reducible rfl
  rotate_left
  ·simp only [Act.put, List.setIfInBounds_toArray, List.set_cons_zero, List.set_cons_succ, i64_w, i32_w]
   rfl
  refine one_ (i := 4) (N := some 50) #[true, true, true, true, true, false, false, false, false, false, false, false, false, false, false, false, false, false] rfl rfl (one_of HT_.out (by kernel_rfl)) (by decide) (fun K hK => ?_)
  refine goes_ Tryz.func18 (by kernel_rfl) rfl #[.agg #[.int .i64 1, .slice Ab nb cb, .string r, .slice Al nl cl, .string sr, .slice As ns cs, .int .i64 e], .int .u8 105] (by rfl) rfl rfl (by (try simp only [List.map_toArray, List.map_cons, List.map_nil]); first | done | rfl) ?_
  refine (PB.out _).mono ?_
  rintro e' w' ⟨rfl, hb⟩; refine ⟨_, rfl, ?_⟩; have hbW : Below W.heap.size W w' := (below_step (below_drew1 (Below.refl _ _)) hb); have kb2 := PK.out.2.1 w' hbW; have kr2 := PK.out.1 w' hbW; have kn2 := PK.out.2.2.1 w' hbW; have b20 := (blk_cell kb2 0).trans rfl; have b21 := (blk_cell kb2 1).trans rfl; have b22 := (blk_cell kb2 2).trans rfl; have b23 := (blk_cell kb2 3).trans rfl; have b24 := (blk_cell kb2 4).trans rfl; have b25 := (blk_cell kb2 5).trans rfl; have b26 := (blk_cell kb2 6).trans rfl; have x20 := (blk_cell kn2 0).trans rfl; have r20 := (blk_cell kr2 0).trans rfl; have y20 := blk_frozen kr2 0; have x21 := (blk_cell kn2 1).trans rfl; have r21 := (blk_cell kr2 1).trans rfl; have y21 := blk_frozen kr2 1; have x22 := (blk_cell kn2 2).trans rfl; have r22 := (blk_cell kr2 2).trans rfl; have y22 := blk_frozen kr2 2; have PW := Aside0.mk (And.intro hbW kr2); clear hb hbW kb2 kr2 kn2
  refine hK.out _ _ ⟨b20, b21, b22, b23, b24, b25, b26, x20, x21, x22⟩ (fun hHeld => ?_)
  clear hK K
  refine norm_ (a' := ?_) ?_ ?_
  rotate_left
  ·show Act.put _ (some 50) _ = _
   simp only [Act.put, List.setIfInBounds_toArray, List.set_cons_zero, List.set_cons_succ, i64_w, i32_w]
   rfl
  refine pure_ (i := 5) (N := some 51) (v := ?_) (a' := ?_) #[true, true, true, true, true, true, false, false, false, false, false, false, false, false, false, false, false, false] rfl rfl (any_of HT_.out (by kernel_rfl)) (fun _ _ _ h => h) (Or.inl ⟨by rfl, ?_⟩) ?_ ?_
  rotate_left
  ·intro w'
   go_simp
   with_reducible rfl
  rotate_left
  ·simp only [Act.put, List.setIfInBounds_toArray, List.set_cons_zero, List.set_cons_succ, i64_w, i32_w]
   rfl
  refine pure_ (i := 6) (N := some 52) (v := ?_) (a' := ?_) #[true, true, true, true, true, true, true, false, false, false, false, false, false, false, false, false, false, false] rfl rfl (any_of HT_.out (by kernel_rfl)) (fun _ _ _ h => h) (Or.inl ⟨by rfl, ?_⟩) ?_ ?_
  rotate_left
  ·intro w'
   go_simp
   with_reducible rfl
  rotate_left
  ·simp only [Act.put, List.setIfInBounds_toArray, List.set_cons_zero, List.set_cons_succ, i64_w, i32_w]
   rfl
  refine pure_ (i := 7) (N := some 53) (v := ?_) (a' := ?_) #[true, true, true, true, true, true, true, true, false, false, false, false, false, false, false, false, false, false] rfl rfl (any_of HT_.out (by kernel_rfl)) (fun _ _ _ h => h) (Or.inl ⟨by rfl, ?_⟩) ?_ ?_
  rotate_left
  ·intro w'
   go_simp
   with_reducible rfl
  rotate_left
  ·simp only [Act.put, List.setIfInBounds_toArray, List.set_cons_zero, List.set_cons_succ, i64_w, i32_w]
   rfl
  refine take_ (i := 8) (N := some 54) (v := ?_) (a' := ?_) #[true, true, true, true, true, true, true, true, true, false, false, false, false, false, false, false, false, false] rfl rfl (take_ofW HT_.out HW_.out (by kernel_rfl)) (fun _ _ _ h => h) (Or.inl ⟨by rfl, ?_⟩) hHeld ?_ ?_
  rotate_left
  ·rintro w' ⟨s0, s1, s2, s3, s4, s5, s6, s7, s8, s9⟩
   go_simp
   with_reducible rfl
  rotate_left
  ·simp only [Act.put, List.setIfInBounds_toArray, List.set_cons_zero, List.set_cons_succ, i64_w, i32_w]
   rfl
  refine pure_ (i := 9) (N := some 55) (v := ?_) (a' := ?_) #[true, true, true, true, true, true, true, true, true, true, false, false, false, false, false, false, false, false] rfl rfl (any_of HT_.out (by kernel_rfl)) (fun _ _ _ h => h) (Or.inl ⟨by rfl, ?_⟩) ?_ ?_
  rotate_left
  ·intro w'
   go_simp
   with_reducible rfl
  rotate_left
  ·simp only [Act.put, List.setIfInBounds_toArray, List.set_cons_zero, List.set_cons_succ, i64_w, i32_w]
   rfl
  refine pure_ (i := 10) (N := some 56) (v := ?_) (a' := ?_) #[true, true, true, true, true, true, true, true, true, true, true, false, false, false, false, false, false, false] rfl rfl (any_of HT_.out (by kernel_rfl)) (fun _ _ _ h => h) (Or.inl ⟨by rfl, ?_⟩) ?_ ?_
  rotate_left
  ·intro w'
   go_simp
   with_reducible rfl
  rotate_left
  ·simp only [Act.put, List.setIfInBounds_toArray, List.set_cons_zero, List.set_cons_succ, i64_w, i32_w]
   rfl
  refine pure_ (i := 11) (N := some 57) (v := ?_) (a' := ?_) #[true, true, true, true, true, true, true, true, true, true, true, true, false, false, false, false, false, false] rfl rfl (any_of HT_.out (by kernel_rfl)) (fun _ _ _ h => h) (Or.inl ⟨by rfl, ?_⟩) ?_ ?_
  rotate_left
  ·intro w'
   go_simp
   with_reducible rfl
  rotate_left
  ·simp only [Act.put, List.setIfInBounds_toArray, List.set_cons_zero, List.set_cons_succ, i64_w, i32_w]
   rfl
  refine take_ (i := 12) (N := some 58) (v := ?_) (a' := ?_) #[true, true, true, true, true, true, true, true, true, true, true, true, true, false, false, false, false, false] rfl rfl (take_ofW HT_.out HW_.out (by kernel_rfl)) (fun _ _ _ h => h) (Or.inl ⟨by rfl, ?_⟩) hHeld ?_ ?_
  rotate_left
  ·rintro w' ⟨s0, s1, s2, s3, s4, s5, s6, s7, s8, s9⟩
   go_simp
   with_reducible rfl
  rotate_left
  ·simp only [Act.put, List.setIfInBounds_toArray, List.set_cons_zero, List.set_cons_succ, i64_w, i32_w]
   rfl
  refine pure_ (i := 13) (N := some 59) (v := ?_) (a' := ?_) #[true, true, true, true, true, true, true, true, true, true, true, true, true, true, false, false, false, false] rfl rfl (any_of HT_.out (by kernel_rfl)) (fun _ _ _ h => h) (Or.inl ⟨by rfl, ?_⟩) ?_ ?_
  rotate_left
  ·intro w'
   go_simp
   with_reducible rfl
  rotate_left
  ·simp only [Act.put, List.setIfInBounds_toArray, List.set_cons_zero, List.set_cons_succ, i64_w, i32_w]
   rfl
  refine pure_ (i := 14) (N := some 60) (v := ?_) (a' := ?_) #[true, true, true, true, true, true, true, true, true, true, true, true, true, true, true, false, false, false] rfl rfl (any_of HT_.out (by kernel_rfl)) (fun _ _ _ h => h) (Or.inl ⟨by rfl, ?_⟩) ?_ ?_
  rotate_left
  ·intro w'
   go_simp
   with_reducible rfl
  rotate_left
  ·simp only [Act.put, List.setIfInBounds_toArray, List.set_cons_zero, List.set_cons_succ, i64_w, i32_w]
   rfl
  refine pure_ (i := 15) (N := some 61) (v := ?_) (a' := ?_) #[true, true, true, true, true, true, true, true, true, true, true, true, true, true, true, true, false, false] rfl rfl (any_of HT_.out (by kernel_rfl)) (fun _ _ _ h => h) (Or.inl ⟨by rfl, ?_⟩) ?_ ?_
  rotate_left
  ·intro w'
   go_simp
   with_reducible rfl
  rotate_left
  ·simp only [Act.put, List.setIfInBounds_toArray, List.set_cons_zero, List.set_cons_succ, i64_w, i32_w]
   rfl
  refine one_ (i := 16) (N := none) #[true, true, true, true, true, true, true, true, true, true, true, true, true, true, true, true, true, false] rfl rfl (one_of HT_.out (by kernel_rfl)) (by decide) (fun K hK => ?_)
  refine skip_ (w1 := ?_) (by rfl) rfl ?_ ?_
  rotate_left
  ·go_simp
   rfl
  have kb3 := off3 (PK.out.2.1 w' PW.out.1) (show w.heap.size ≠ w.heap.size + 1 by omega) (.int .u8 T) (.slice A1 m1 c1) (.slice A2 m2 c2)
  have kn3 := off3 (PK.out.2.2.1 w' PW.out.1) hne2 (.int .u8 T) (.slice A1 m1 c1) (.slice A2 m2 c2)
  refine hK.out _ _ ⟨(blk_cell kb3 0).trans rfl, (blk_cell kb3 1).trans rfl, (blk_cell kb3 2).trans rfl, (blk_cell kb3 3).trans rfl, (blk_cell kb3 4).trans rfl, (blk_cell kb3 5).trans rfl, (blk_cell kb3 6).trans rfl, (blk_cell kn3 0).trans rfl, (blk_cell kn3 1).trans rfl, (blk_cell kn3 2).trans rfl⟩ (fun hHeld => ?_)
  clear hK K kb3 kn3
  refine pure_ (i := 17) (N := some 5) (v := ?_) (a' := ?_) #[true, true, true, true, true, true, true, true, true, true, true, true, true, true, true, true, true, true] rfl rfl (any_of HT_.out (by kernel_rfl)) (fun _ _ _ h => h) (Or.inl ⟨by rfl, ?_⟩) ?_ ?_
  rotate_left
  ·intro w'
   go_simp
   with_reducible rfl
  rotate_left
  ·simp only [Act.put, List.setIfInBounds_toArray, List.set_cons_zero, List.set_cons_succ, i64_w, i32_w]
   rfl
  refine done_ (done_of HT_.out (by kernel_rfl)) ?_
  go_wp2
  have kf := put3 PW.out.2 (.int .u8 T) (.slice A1 m1 c1) (.slice A2 m2 c2)
  refine bodyPost_ret (results_ct rfl _ _ (w.heap.size + 1) 44 #[.int .u8 T, .slice A1 m1 c1, .slice A2 m2 c2] (0, 0) _ rfl (by first | exact kf | exact blk_drew kf) Tryz.underlying44 rfl (by kernel_rfl)) rfl ?_
  have hk1 : ∀ k, (start3 w #[.int .i64 1, .slice Ab nb cb, .string r, .slice Al nl cl, .string sr, .slice As ns cs, .int .i64 e]).heap.size ≤ k → k ≠ w.heap.size + 1 := fun k hk => by rw [start3_size] at hk; omega
  have hk2 : ∀ k, (start3 w #[.int .i64 1, .slice Ab nb cb, .string r, .slice Al nl cl, .string sr, .slice As ns cs, .int .i64 e]).heap.size ≤ k → w.heap.size ≤ k := fun k hk => by rw [start3_size] at hk; omega
  have q1 := far3 (Kd.V_below PK.out.2.2.2.1 PW.out.1) hk1 (.int .u8 T) (.slice A1 m1 c1) (.slice A2 m2 c2)
  have q2 := far3 (Kd.V_below PK.out.2.2.2.2.1 PW.out.1) hk1 (.int .u8 T) (.slice A1 m1 c1) (.slice A2 m2 c2)
  have q3 := set3 (below_step PK.out.2.2.2.2.2 PW.out.1) (Nat.le_succ w.heap.size) (.int .u8 T) (.slice A1 m1 c1) (.slice A2 m2 c2)
  exact ⟨_, _, rfl, by first | exact Kd.V_mono q1 hk2 | exact Kd.V_drew (Kd.V_mono q1 hk2), by first | exact Kd.V_mono q2 hk2 | exact Kd.V_drew (Kd.V_mono q2 hk2), by first | exact q3 | exact below_drew1 q3⟩
 ·skip
  subst hP
  have hr : (true && (decide (i = 0) || decide (i = 1))) = false := by rw [decide_eq_false h0, decide_eq_false h1]; rfl
  rw [hr]
  have e0 : (i == 0) = false := beq_eq_false_iff_ne.mpr h0
  have e1 : (i == 1) = false := beq_eq_false_iff_ne.mpr h1
  rw [e1] at PN
  clear hr h0 h1
  go_enter Tryz.func9, Tryz.ntmps9
  go_wp2_with (go_at_call 17; refine (PN.out _ (start3_below w #[.int .i64 i, .slice Ab nb cb, .string r, .slice Al nl cl, .string sr, .slice As ns cs, .int .i64 e])).mono ?_; rintro e' w1 ⟨v1, v2, rfl, hV1, hV2, hb⟩; obtain ⟨A1, c1, rfl⟩ := Kd.V_slice hV1; obtain ⟨A2, c2, rfl⟩ := Kd.V_slice hV2; generalize hm1 : body.length = m1 at hV1 ⊢; generalize hm2 : kids.length = m2 at hV2 ⊢; have P1 := Aside0.mk (And.intro hV1 (And.intro hV2 hb)); clear hV1 hV2 hb hm1 hm2)
  obtain ⟨o, ho⟩ : ∃ o, Obj.cells #[.int .u8 T, .slice A1 m1 c1, .slice A2 m2 c2] 44 = o := ⟨_, rfl⟩
  have kb := blk_alloc (blk_below (start3_0 w #[.int .i64 i, .slice Ab nb cb, .string r, .slice Al nl cl, .string sr, .slice As ns cs, .int .i64 e]) P1.out.2.2) o
  have kr := blk_alloc (blk_below (start3_1 w #[.int .i64 i, .slice Ab nb cb, .string r, .slice Al nl cl, .string sr, .slice As ns cs, .int .i64 e]) P1.out.2.2) o
  have kn := blk_new w1 o
  have hlt : w.heap.size + 2 < w1.heap.size := blk_lt (blk_below (start3_2 w #[.int .i64 i, .slice Ab nb cb, .string r, .slice Al nl cl, .string sr, .slice As ns cs, .int .i64 e]) P1.out.2.2)
  have hV1 := Kd.V_alloc P1.out.1 o
  have hV2 := Kd.V_alloc P1.out.2.1 o
  have hB := below_alloc (below_step (start3_below w #[.int .i64 i, .slice Ab nb cb, .string r, .slice Al nl cl, .string sr, .slice As ns cs, .int .i64 e]) P1.out.2.2) o
  rw [ho]
  generalize w1.alloc o = W at kb kr kn hV1 hV2 hB ⊢
  rw [← ho] at kn
  clear ho
  have b0 : W.cell? ⟨w.heap.size, 0, none⟩ = some (.int .i64 i) := (blk_cell kb 0).trans rfl
  have b1 : W.cell? ⟨w.heap.size, 1, none⟩ = some (.slice Ab nb cb) := (blk_cell kb 1).trans rfl
  have b2 : W.cell? ⟨w.heap.size, 2, none⟩ = some (.string r) := (blk_cell kb 2).trans rfl
  have b3 : W.cell? ⟨w.heap.size, 3, none⟩ = some (.slice Al nl cl) := (blk_cell kb 3).trans rfl
  have b4 : W.cell? ⟨w.heap.size, 4, none⟩ = some (.string sr) := (blk_cell kb 4).trans rfl
  have b5 : W.cell? ⟨w.heap.size, 5, none⟩ = some (.slice As ns cs) := (blk_cell kb 5).trans rfl
  have b6 : W.cell? ⟨w.heap.size, 6, none⟩ = some (.int .i64 e) := (blk_cell kb 6).trans rfl
  have x0 : W.cell? ⟨w1.heap.size, 0, none⟩ = some (.int .u8 T) := (blk_cell kn 0).trans rfl
  have x1 : W.cell? ⟨w1.heap.size, 1, none⟩ = some (.slice A1 m1 c1) := (blk_cell kn 1).trans rfl
  have x2 : W.cell? ⟨w1.heap.size, 2, none⟩ = some (.slice A2 m2 c2) := (blk_cell kn 2).trans rfl
  have r0 := (blk_cell kr 0).trans rfl
  have y0 := blk_frozen kr 0
  have r1 := (blk_cell kr 1).trans rfl
  have y1 := blk_frozen kr 1
  have r2 := (blk_cell kr 2).trans rfl
  have y2 := blk_frozen kr 2
  have PK := Aside0.mk (And.intro (fun (w' : World) (hb : Below W.heap.size W w') => blk_below kr hb) (And.intro (fun (w' : World) (hb : Below W.heap.size W w') => blk_below kb hb) (And.intro (fun (w' : World) (hb : Below W.heap.size W w') => blk_below kn hb) (And.intro hV1 (And.intro hV2 hB)))))
  have PW0 := Aside0.mk (And.intro (Below.refl W.heap.size W) kr)
  have hne : w.heap.size + 1 ≠ w1.heap.size := by omega
  have hne2 := hne.symm
  have hne3 : w.heap.size ≠ w1.heap.size := by omega
  have hne4 := hne3.symm
  clear kb kr kn hV1 hV2 hB P1 hlt
  refine start_ (n := 18) (S := fun w' => w'.cell? ⟨w.heap.size, 0, none⟩ = some (.int .i64 i) ∧ w'.cell? ⟨w.heap.size, 1, none⟩ = some (.slice Ab nb cb) ∧ w'.cell? ⟨w.heap.size, 2, none⟩ = some (.string r) ∧ w'.cell? ⟨w.heap.size, 3, none⟩ = some (.slice Al nl cl) ∧ w'.cell? ⟨w.heap.size, 4, none⟩ = some (.string sr) ∧ w'.cell? ⟨w.heap.size, 5, none⟩ = some (.slice As ns cs) ∧ w'.cell? ⟨w.heap.size, 6, none⟩ = some (.int .i64 e) ∧ w'.cell? ⟨w1.heap.size, 0, none⟩ = some (.int .u8 T) ∧ w'.cell? ⟨w1.heap.size, 1, none⟩ = some (.slice A1 m1 c1) ∧ w'.cell? ⟨w1.heap.size, 2, none⟩ = some (.slice A2 m2 c2)) (ds := []) #[false, false, false, false, false, false, false, false, false, false, false, false, false, false, false, false, false, false] (by kernel_rfl) rfl rfl ⟨b0, b1, b2, b3, b4, b5, b6, x0, x1, x2⟩ (fun hHeld => ?_)
  refine with_tabW st_tab9 st_bits9 (fun HT_ HW_ => ?_)
  refine pure_ (i := 1) (N := some 47) (v := ?_) (a' := ?_) #[false, true, false, false, false, false, false, false, false, false, false, false, false, false, false, false, false, false] rfl rfl (any_of HT_.out (by kernel_rfl)) (fun _ _ _ h => h) (Or.inl ⟨by rfl, ?_⟩) ?_ ?_
  rotate_left
  ·intro w'
   go_simp
   with_reducible rfl
  rotate_left
  ·simp only [Act.put, List.setIfInBounds_toArray, List.set_cons_zero, List.set_cons_succ, i64_w, i32_w]
   rfl
  refine pure_ (i := 2) (N := some 48) (v := ?_) (a' := ?_) #[false, true, true, false, false, false, false, false, false, false, false, false, false, false, false, false, false, false] rfl rfl (any_of HT_.out (by kernel_rfl)) (fun _ _ _ h => h) (Or.inl ⟨by rfl, ?_⟩) ?_ ?_
  rotate_left
  ·intro w'
   go_simp
   with_reducible rfl
  rotate_left
  ·simp only [Act.put, List.setIfInBounds_toArray, List.set_cons_zero, List.set_cons_succ, i64_w, i32_w]
   rfl
  refine take_ (i := 0) (N := some 46) (v := ?_) (a' := ?_) #[true, true, true, false, false, false, false, false, false, false, false, false, false, false, false, false, false, false] rfl rfl (take_ofW HT_.out HW_.out (by kernel_rfl)) (fun _ _ _ h => h) (Or.inl ⟨by rfl, ?_⟩) hHeld ?_ ?_
  rotate_left
  ·rintro w' ⟨s0, s1, s2, s3, s4, s5, s6, s7, s8, s9⟩
   go_simp
   with_reducible rfl
  rotate_left
  ·simp only [Act.put, List.setIfInBounds_toArray, List.set_cons_zero, List.set_cons_succ, i64_w, i32_w]
   rfl
  refine take_ (i := 3) (N := some 49) (v := ?_) (a' := ?_) #[true, true, true, true, false, false, false, false, false, false, false, false, false, false, false, false, false, false] rfl rfl (take_ofW HT_.out HW_.out (by kernel_rfl)) (fun _ _ _ h => h) (Or.inl ⟨by rfl, ?_⟩) hHeld ?_ ?_
  rotate_left
  ·rintro w' ⟨s0, s1, s2, s3, s4, s5, s6, s7, s8, s9⟩
   go_simp
   with_reducible rfl
  rotate_left
  ·simp only [Act.put, List.setIfInBounds_toArray, List.set_cons_zero, List.set_cons_succ, i64_w, i32_w]
   rfl
  refine one_ (i := 4) (N := some 50) #[true, true, true, true, true, false, false, false, false, false, false, false, false, false, false, false, false, false] rfl rfl (one_of HT_.out (by kernel_rfl)) (by decide) (fun K hK => ?_)
  refine goes_ Tryz.func18 (by kernel_rfl) rfl #[.agg #[.int .i64 i, .slice Ab nb cb, .string r, .slice Al nl cl, .string sr, .slice As ns cs, .int .i64 e], .int .u8 105] (by rfl) rfl rfl (by (try simp only [List.map_toArray, List.map_cons, List.map_nil]); first | done | rfl) ?_
  refine (PB.out _).mono ?_
  rintro e' w' ⟨rfl, hb⟩; refine ⟨_, rfl, ?_⟩; have hbW : Below W.heap.size W w' := (below_step (below_drew1 (Below.refl _ _)) hb); have kb2 := PK.out.2.1 w' hbW; have kr2 := PK.out.1 w' hbW; have kn2 := PK.out.2.2.1 w' hbW; have b20 := (blk_cell kb2 0).trans rfl; have b21 := (blk_cell kb2 1).trans rfl; have b22 := (blk_cell kb2 2).trans rfl; have b23 := (blk_cell kb2 3).trans rfl; have b24 := (blk_cell kb2 4).trans rfl; have b25 := (blk_cell kb2 5).trans rfl; have b26 := (blk_cell kb2 6).trans rfl; have x20 := (blk_cell kn2 0).trans rfl; have r20 := (blk_cell kr2 0).trans rfl; have y20 := blk_frozen kr2 0; have x21 := (blk_cell kn2 1).trans rfl; have r21 := (blk_cell kr2 1).trans rfl; have y21 := blk_frozen kr2 1; have x22 := (blk_cell kn2 2).trans rfl; have r22 := (blk_cell kr2 2).trans rfl; have y22 := blk_frozen kr2 2; have PW := Aside0.mk (And.intro hbW kr2); clear hb hbW kb2 kr2 kn2
  refine hK.out _ _ ⟨b20, b21, b22, b23, b24, b25, b26, x20, x21, x22⟩ (fun hHeld => ?_)
  clear hK K
  refine norm_ (a' := ?_) ?_ ?_
  rotate_left
  ·show Act.put _ (some 50) _ = _
   simp only [Act.put, List.setIfInBounds_toArray, List.set_cons_zero, List.set_cons_succ, i64_w, i32_w]
   rfl
  refine pure_ (i := 5) (N := some 51) (v := ?_) (a' := ?_) #[true, true, true, true, true, true, false, false, false, false, false, false, false, false, false, false, false, false] rfl rfl (any_of HT_.out (by kernel_rfl)) (fun _ _ _ h => h) (Or.inl ⟨by rfl, ?_⟩) ?_ ?_
  rotate_left
  ·intro w'
   go_simp
   with_reducible rfl
  rotate_left
  ·simp only [Act.put, List.setIfInBounds_toArray, List.set_cons_zero, List.set_cons_succ, i64_w, i32_w]
   rfl
  refine pure_ (i := 6) (N := some 52) (v := ?_) (a' := ?_) #[true, true, true, true, true, true, true, false, false, false, false, false, false, false, false, false, false, false] rfl rfl (any_of HT_.out (by kernel_rfl)) (fun _ _ _ h => h) (Or.inl ⟨by rfl, ?_⟩) ?_ ?_
  rotate_left
  ·intro w'
   go_simp
   with_reducible rfl
  rotate_left
  ·simp only [Act.put, List.setIfInBounds_toArray, List.set_cons_zero, List.set_cons_succ, i64_w, i32_w]
   rfl
  refine pure_ (i := 7) (N := some 53) (v := ?_) (a' := ?_) #[true, true, true, true, true, true, true, true, false, false, false, false, false, false, false, false, false, false] rfl rfl (any_of HT_.out (by kernel_rfl)) (fun _ _ _ h => h) (Or.inl ⟨by rfl, ?_⟩) ?_ ?_
  rotate_left
  ·intro w'
   go_simp
   with_reducible rfl
  rotate_left
  ·simp only [Act.put, List.setIfInBounds_toArray, List.set_cons_zero, List.set_cons_succ, i64_w, i32_w]
   rfl
  refine take_ (i := 8) (N := some 54) (v := ?_) (a' := ?_) #[true, true, true, true, true, true, true, true, true, false, false, false, false, false, false, false, false, false] rfl rfl (take_ofW HT_.out HW_.out (by kernel_rfl)) (fun _ _ _ h => h) (Or.inl ⟨by rfl, ?_⟩) hHeld ?_ ?_
  rotate_left
  ·rintro w' ⟨s0, s1, s2, s3, s4, s5, s6, s7, s8, s9⟩
   go_simp
   with_reducible rfl
  rotate_left
  ·simp only [Act.put, List.setIfInBounds_toArray, List.set_cons_zero, List.set_cons_succ, i64_w, i32_w]
   rfl
  refine pure_ (i := 9) (N := some 55) (v := ?_) (a' := ?_) #[true, true, true, true, true, true, true, true, true, true, false, false, false, false, false, false, false, false] rfl rfl (any_of HT_.out (by kernel_rfl)) (fun _ _ _ h => h) (Or.inl ⟨by rfl, ?_⟩) ?_ ?_
  rotate_left
  ·intro w'
   go_simp
   with_reducible rfl
  rotate_left
  ·simp only [Act.put, List.setIfInBounds_toArray, List.set_cons_zero, List.set_cons_succ, i64_w, i32_w]
   rfl
  refine pure_ (i := 10) (N := some 56) (v := ?_) (a' := ?_) #[true, true, true, true, true, true, true, true, true, true, true, false, false, false, false, false, false, false] rfl rfl (any_of HT_.out (by kernel_rfl)) (fun _ _ _ h => h) (Or.inl ⟨by rfl, ?_⟩) ?_ ?_
  rotate_left
  ·intro w'
   go_simp
   with_reducible rfl
  rotate_left
  ·simp only [Act.put, List.setIfInBounds_toArray, List.set_cons_zero, List.set_cons_succ, i64_w, i32_w]
   rfl
  refine pure_ (i := 11) (N := some 57) (v := ?_) (a' := ?_) #[true, true, true, true, true, true, true, true, true, true, true, true, false, false, false, false, false, false] rfl rfl (any_of HT_.out (by kernel_rfl)) (fun _ _ _ h => h) (Or.inl ⟨by rfl, ?_⟩) ?_ ?_
  rotate_left
  ·intro w'
   go_simp
   with_reducible rfl
  rotate_left
  ·simp only [Act.put, List.setIfInBounds_toArray, List.set_cons_zero, List.set_cons_succ, i64_w, i32_w]
   rfl
  refine take_ (i := 12) (N := some 58) (v := ?_) (a' := ?_) #[true, true, true, true, true, true, true, true, true, true, true, true, true, false, false, false, false, false] rfl rfl (take_ofW HT_.out HW_.out (by kernel_rfl)) (fun _ _ _ h => h) (Or.inl ⟨by rfl, ?_⟩) hHeld ?_ ?_
  rotate_left
  ·rintro w' ⟨s0, s1, s2, s3, s4, s5, s6, s7, s8, s9⟩
   go_simp
   with_reducible rfl
  rotate_left
  ·simp only [Act.put, List.setIfInBounds_toArray, List.set_cons_zero, List.set_cons_succ, i64_w, i32_w]
   rfl
  refine pure_ (i := 13) (N := some 59) (v := ?_) (a' := ?_) #[true, true, true, true, true, true, true, true, true, true, true, true, true, true, false, false, false, false] rfl rfl (any_of HT_.out (by kernel_rfl)) (fun _ _ _ h => h) (Or.inl ⟨by rfl, ?_⟩) ?_ ?_
  rotate_left
  ·intro w'
   go_simp
   with_reducible rfl
  rotate_left
  ·simp only [Act.put, List.setIfInBounds_toArray, List.set_cons_zero, List.set_cons_succ, i64_w, i32_w]
   rfl
  refine pure_ (i := 14) (N := some 60) (v := ?_) (a' := ?_) #[true, true, true, true, true, true, true, true, true, true, true, true, true, true, true, false, false, false] rfl rfl (any_of HT_.out (by kernel_rfl)) (fun _ _ _ h => h) (Or.inl ⟨by rfl, ?_⟩) ?_ ?_
  rotate_left
  ·intro w'
   go_simp
   with_reducible rfl
  rotate_left
  ·simp only [Act.put, List.setIfInBounds_toArray, List.set_cons_zero, List.set_cons_succ, i64_w, i32_w]
   rfl
  refine pure_ (i := 15) (N := some 61) (v := ?_) (a' := ?_) #[true, true, true, true, true, true, true, true, true, true, true, true, true, true, true, true, false, false] rfl rfl (any_of HT_.out (by kernel_rfl)) (fun _ _ _ h => h) (Or.inl ⟨by rfl, ?_⟩) ?_ ?_
  rotate_left
  ·intro w'
   go_simp
   with_reducible rfl
  rotate_left
  ·simp only [Act.put, List.setIfInBounds_toArray, List.set_cons_zero, List.set_cons_succ, i64_w, i32_w]
   rfl
  refine one_ (i := 16) (N := none) #[true, true, true, true, true, true, true, true, true, true, true, true, true, true, true, true, true, false] rfl rfl (one_of HT_.out (by kernel_rfl)) (by decide) (fun K hK => ?_)
  refine skip_ (w1 := ?_) (by rfl) rfl ?_ ?_
  rotate_left
  ·go_simp
   rfl
  have kb3 := off3 (PK.out.2.1 w' PW.out.1) (show w.heap.size ≠ w.heap.size + 1 by omega) (.int .u8 T) (.slice A1 m1 c1) (.slice A2 m2 c2)
  have kn3 := off3 (PK.out.2.2.1 w' PW.out.1) hne2 (.int .u8 T) (.slice A1 m1 c1) (.slice A2 m2 c2)
  refine hK.out _ _ ⟨(blk_cell kb3 0).trans rfl, (blk_cell kb3 1).trans rfl, (blk_cell kb3 2).trans rfl, (blk_cell kb3 3).trans rfl, (blk_cell kb3 4).trans rfl, (blk_cell kb3 5).trans rfl, (blk_cell kb3 6).trans rfl, (blk_cell kn3 0).trans rfl, (blk_cell kn3 1).trans rfl, (blk_cell kn3 2).trans rfl⟩ (fun hHeld => ?_)
  clear hK K kb3 kn3
  refine pure_ (i := 17) (N := some 5) (v := ?_) (a' := ?_) #[true, true, true, true, true, true, true, true, true, true, true, true, true, true, true, true, true, true] rfl rfl (any_of HT_.out (by kernel_rfl)) (fun _ _ _ h => h) (Or.inl ⟨by rfl, ?_⟩) ?_ ?_
  rotate_left
  ·intro w'
   go_simp
   with_reducible rfl
  rotate_left
  ·simp only [Act.put, List.setIfInBounds_toArray, List.set_cons_zero, List.set_cons_succ, i64_w, i32_w]
   rfl
  refine done_ (done_of HT_.out (by kernel_rfl)) ?_
  go_wp2
  have kf := put3 PW.out.2 (.int .u8 T) (.slice A1 m1 c1) (.slice A2 m2 c2)
  refine bodyPost_ret (results_ct rfl _ _ (w.heap.size + 1) 44 #[.int .u8 T, .slice A1 m1 c1, .slice A2 m2 c2] (0, 0) _ rfl (by first | exact kf | exact blk_drew kf) Tryz.underlying44 rfl (by kernel_rfl)) rfl ?_
  have hk1 : ∀ k, (start3 w #[.int .i64 i, .slice Ab nb cb, .string r, .slice Al nl cl, .string sr, .slice As ns cs, .int .i64 e]).heap.size ≤ k → k ≠ w.heap.size + 1 := fun k hk => by rw [start3_size] at hk; omega
  have hk2 : ∀ k, (start3 w #[.int .i64 i, .slice Ab nb cb, .string r, .slice Al nl cl, .string sr, .slice As ns cs, .int .i64 e]).heap.size ≤ k → w.heap.size ≤ k := fun k hk => by rw [start3_size] at hk; omega
  have q1 := far3 (Kd.V_below PK.out.2.2.2.1 PW.out.1) hk1 (.int .u8 T) (.slice A1 m1 c1) (.slice A2 m2 c2)
  have q2 := far3 (Kd.V_below PK.out.2.2.2.2.1 PW.out.1) hk1 (.int .u8 T) (.slice A1 m1 c1) (.slice A2 m2 c2)
  have q3 := set3 (below_step PK.out.2.2.2.2.2 PW.out.1) (Nat.le_succ w.heap.size) (.int .u8 T) (.slice A1 m1 c1) (.slice A2 m2 c2)
  exact ⟨_, _, rfl, by first | exact Kd.V_mono q1 hk2 | exact Kd.V_drew (Kd.V_mono q1 hk2), by first | exact Kd.V_mono q2 hk2 | exact Kd.V_drew (Kd.V_mono q2 hk2), by first | exact q3 | exact below_drew1 q3⟩
set_option maxHeartbeats 8000000 in
set_option maxRecDepth 100000 in
theorem state_bytes (T : Int) (body : List Int) (kids : List S44) (i : Int) (Ab : Option Addr) (cb : Nat) (b : List Int) (r : ByteArray) (Al : Option Addr) (cl : Nat) (l : List ByteArray) (sr : ByteArray) (As : Option Addr) (cs : Nat) (sl : List ByteArray) (e : Int) (w : World)
  (hN : ∀ W, Below w.heap.size w W → Calls Tryz.prog 17 #[.iface 25 (.slice Ab b.length cb)] W fun e' w' => ∃ v1 v2 : Value, e' = .returned (.tuple #[.agg #[.int .u8 T, v1, v2], .bool true]) ∧ Kd.V (Kd.int .u8) 5 w' W.heap.size (fun k => W.heap.size ≤ k) v1 body ∧ Kd.V k44 44 w' W.heap.size (fun k => W.heap.size ≤ k) v2 kids ∧ Below W.heap.size W w') :
  Calls Tryz.prog 9 #[anyV 3, .agg #[.int .i64 i, .slice Ab b.length cb, .string r, .slice Al l.length cl, .string sr, .slice As sl.length cs, .int .i64 e]] w fun e' w' => ∃ v1 v2 : Value, e' = .returned (.tuple #[.agg #[.int .u8 T, v1, v2], .bool ((blankB i b r l sr sl e 111 && decide (b.length ≤ 8192)))]) ∧ Kd.V (Kd.int .u8) 5 w' w.heap.size (fun k => w.heap.size ≤ k) v1 body ∧ Kd.V k44 44 w' w.heap.size (fun k => w.heap.size ≤ k) v2 kids ∧ Below w.heap.size w w' := by
 have PN := Aside0.mk hN
 have PB := Aside0.mk (fun W => blank_111 i Ab cb b r Al cl l sr As cs sl e W)
 have t0 := any_ta3_0
 have t1 := any_ta3_1
 have t2 := any_ta3_2
 have t4 := any_ta3_4
 have t3 := any_ta3_3
 generalize blankB i b r l sr sl e 111 = P at PB ⊢
 obtain ⟨Q, hQ⟩ : ∃ Q, Q = decide ((b.length : Int) ≤ 8192) := ⟨_, rfl⟩
 have hQ2 : decide (b.length ≤ 8192) = Q := by rw [hQ]; exact decide_eq_decide.2 (by omega)
 rw [hQ2]
 clear hQ2
 generalize b.length = nb at PN PB hQ ⊢
 generalize l.length = nl at PN PB ⊢
 generalize sl.length = ns at PN PB ⊢
 have PQ := Aside0.mk hQ
 clear hQ
 obtain ⟨X, hX⟩ : ∃ X, X = anyV 3 := ⟨_, rfl⟩
 rw [← hX] at t0 t1 t2 t4 t3 ⊢
 clear hX hN
 cases P
 ·skip
  rw [Bool.false_and]
  go_enter Tryz.func9, Tryz.ntmps9
  go_wp2_with (go_at_call 17; refine (PN.out _ (start3_below w #[.int .i64 i, .slice Ab nb cb, .string r, .slice Al nl cl, .string sr, .slice As ns cs, .int .i64 e])).mono ?_; rintro e' w1 ⟨v1, v2, rfl, hV1, hV2, hb⟩; obtain ⟨A1, c1, rfl⟩ := Kd.V_slice hV1; obtain ⟨A2, c2, rfl⟩ := Kd.V_slice hV2; generalize hm1 : body.length = m1 at hV1 ⊢; generalize hm2 : kids.length = m2 at hV2 ⊢; have P1 := Aside0.mk (And.intro hV1 (And.intro hV2 hb)); clear hV1 hV2 hb hm1 hm2)
  obtain ⟨o, ho⟩ : ∃ o, Obj.cells #[.int .u8 T, .slice A1 m1 c1, .slice A2 m2 c2] 44 = o := ⟨_, rfl⟩
  have kb := blk_alloc (blk_below (start3_0 w #[.int .i64 i, .slice Ab nb cb, .string r, .slice Al nl cl, .string sr, .slice As ns cs, .int .i64 e]) P1.out.2.2) o
  have kr := blk_alloc (blk_below (start3_1 w #[.int .i64 i, .slice Ab nb cb, .string r, .slice Al nl cl, .string sr, .slice As ns cs, .int .i64 e]) P1.out.2.2) o
  have kn := blk_new w1 o
  have hlt : w.heap.size + 2 < w1.heap.size := blk_lt (blk_below (start3_2 w #[.int .i64 i, .slice Ab nb cb, .string r, .slice Al nl cl, .string sr, .slice As ns cs, .int .i64 e]) P1.out.2.2)
  have hV1 := Kd.V_alloc P1.out.1 o
  have hV2 := Kd.V_alloc P1.out.2.1 o
  have hB := below_alloc (below_step (start3_below w #[.int .i64 i, .slice Ab nb cb, .string r, .slice Al nl cl, .string sr, .slice As ns cs, .int .i64 e]) P1.out.2.2) o
  rw [ho]
  generalize w1.alloc o = W at kb kr kn hV1 hV2 hB ⊢
  rw [← ho] at kn
  clear ho
  have b0 : W.cell? ⟨w.heap.size, 0, none⟩ = some (.int .i64 i) := (blk_cell kb 0).trans rfl
  have b1 : W.cell? ⟨w.heap.size, 1, none⟩ = some (.slice Ab nb cb) := (blk_cell kb 1).trans rfl
  have b2 : W.cell? ⟨w.heap.size, 2, none⟩ = some (.string r) := (blk_cell kb 2).trans rfl
  have b3 : W.cell? ⟨w.heap.size, 3, none⟩ = some (.slice Al nl cl) := (blk_cell kb 3).trans rfl
  have b4 : W.cell? ⟨w.heap.size, 4, none⟩ = some (.string sr) := (blk_cell kb 4).trans rfl
  have b5 : W.cell? ⟨w.heap.size, 5, none⟩ = some (.slice As ns cs) := (blk_cell kb 5).trans rfl
  have b6 : W.cell? ⟨w.heap.size, 6, none⟩ = some (.int .i64 e) := (blk_cell kb 6).trans rfl
  have x0 : W.cell? ⟨w1.heap.size, 0, none⟩ = some (.int .u8 T) := (blk_cell kn 0).trans rfl
  have x1 : W.cell? ⟨w1.heap.size, 1, none⟩ = some (.slice A1 m1 c1) := (blk_cell kn 1).trans rfl
  have x2 : W.cell? ⟨w1.heap.size, 2, none⟩ = some (.slice A2 m2 c2) := (blk_cell kn 2).trans rfl
  have r0 := (blk_cell kr 0).trans rfl
  have y0 := blk_frozen kr 0
  have r1 := (blk_cell kr 1).trans rfl
  have y1 := blk_frozen kr 1
  have r2 := (blk_cell kr 2).trans rfl
  have y2 := blk_frozen kr 2
  have PK := Aside0.mk (And.intro (fun (w' : World) (hb : Below W.heap.size W w') => blk_below kr hb) (And.intro (fun (w' : World) (hb : Below W.heap.size W w') => blk_below kb hb) (And.intro (fun (w' : World) (hb : Below W.heap.size W w') => blk_below kn hb) (And.intro hV1 (And.intro hV2 hB)))))
  have PW0 := Aside0.mk (And.intro (Below.refl W.heap.size W) kr)
  have hne : w.heap.size + 1 ≠ w1.heap.size := by omega
  have hne2 := hne.symm
  have hne3 : w.heap.size ≠ w1.heap.size := by omega
  have hne4 := hne3.symm
  clear kb kr kn hV1 hV2 hB P1 hlt
  refine start_ (n := 14) (S := fun w' => w'.cell? ⟨w.heap.size, 0, none⟩ = some (.int .i64 i) ∧ w'.cell? ⟨w.heap.size, 1, none⟩ = some (.slice Ab nb cb) ∧ w'.cell? ⟨w.heap.size, 2, none⟩ = some (.string r) ∧ w'.cell? ⟨w.heap.size, 3, none⟩ = some (.slice Al nl cl) ∧ w'.cell? ⟨w.heap.size, 4, none⟩ = some (.string sr) ∧ w'.cell? ⟨w.heap.size, 5, none⟩ = some (.slice As ns cs) ∧ w'.cell? ⟨w.heap.size, 6, none⟩ = some (.int .i64 e) ∧ w'.cell? ⟨w1.heap.size, 0, none⟩ = some (.int .u8 T) ∧ w'.cell? ⟨w1.heap.size, 1, none⟩ = some (.slice A1 m1 c1) ∧ w'.cell? ⟨w1.heap.size, 2, none⟩ = some (.slice A2 m2 c2)) (ds := []) #[false, false, false, false, false, false, false, false, false, false, false, false, false, false] (by kernel_rfl) rfl rfl ⟨b0, b1, b2, b3, b4, b5, b6, x0, x1, x2⟩ (fun hHeld => ?_)
  refine with_tabW st_tab18 st_bits18 (fun HT_ HW_ => ?_)
  refine pure_ (i := 1) (N := some 105) (v := ?_) (a' := ?_) #[false, true, false, false, false, false, false, false, false, false, false, false, false, false] rfl rfl (any_of HT_.out (by kernel_rfl)) (fun _ _ _ h => h) (Or.inl ⟨by rfl, ?_⟩) ?_ ?_
  rotate_left
  ·intro w'
   go_simp
   with_reducible rfl
  rotate_left
  ·simp only [Act.put, List.setIfInBounds_toArray, List.set_cons_zero, List.set_cons_succ, i64_w, i32_w]
   rfl
  refine pure_ (i := 2) (N := some 106) (v := ?_) (a' := ?_) #[false, true, true, false, false, false, false, false, false, false, false, false, false, false] rfl rfl (any_of HT_.out (by kernel_rfl)) (fun _ _ _ h => h) (Or.inl ⟨by rfl, ?_⟩) ?_ ?_
  rotate_left
  ·intro w'
   go_simp
   with_reducible rfl
  rotate_left
  ·simp only [Act.put, List.setIfInBounds_toArray, List.set_cons_zero, List.set_cons_succ, i64_w, i32_w]
   rfl
  refine take_ (i := 0) (N := some 104) (v := ?_) (a' := ?_) #[true, true, true, false, false, false, false, false, false, false, false, false, false, false] rfl rfl (take_ofW HT_.out HW_.out (by kernel_rfl)) (fun _ _ _ h => h) (Or.inl ⟨by rfl, ?_⟩) hHeld ?_ ?_
  rotate_left
  ·rintro w' ⟨s0, s1, s2, s3, s4, s5, s6, s7, s8, s9⟩
   go_simp
   with_reducible rfl
  rotate_left
  ·simp only [Act.put, List.setIfInBounds_toArray, List.set_cons_zero, List.set_cons_succ, i64_w, i32_w]
   rfl
  refine take_ (i := 3) (N := some 107) (v := ?_) (a' := ?_) #[true, true, true, true, false, false, false, false, false, false, false, false, false, false] rfl rfl (take_ofW HT_.out HW_.out (by kernel_rfl)) (fun _ _ _ h => h) (Or.inl ⟨by rfl, ?_⟩) hHeld ?_ ?_
  rotate_left
  ·rintro w' ⟨s0, s1, s2, s3, s4, s5, s6, s7, s8, s9⟩
   go_simp
   with_reducible rfl
  rotate_left
  ·simp only [Act.put, List.setIfInBounds_toArray, List.set_cons_zero, List.set_cons_succ, i64_w, i32_w]
   rfl
  refine one_ (i := 4) (N := some 108) #[true, true, true, true, true, false, false, false, false, false, false, false, false, false] rfl rfl (one_of HT_.out (by kernel_rfl)) (by decide) (fun K hK => ?_)
  refine goes_ Tryz.func18 (by kernel_rfl) rfl #[.agg #[.int .i64 i, .slice Ab nb cb, .string r, .slice Al nl cl, .string sr, .slice As ns cs, .int .i64 e], .int .u8 111] (by rfl) rfl rfl (by (try simp only [List.map_toArray, List.map_cons, List.map_nil]); first | done | rfl) ?_
  refine (PB.out _).mono ?_
  rintro e' w' ⟨rfl, hb⟩; refine ⟨_, rfl, ?_⟩; have hbW : Below W.heap.size W w' := (below_step (below_drew1 (Below.refl _ _)) hb); have kb2 := PK.out.2.1 w' hbW; have kr2 := PK.out.1 w' hbW; have kn2 := PK.out.2.2.1 w' hbW; have b20 := (blk_cell kb2 0).trans rfl; have b21 := (blk_cell kb2 1).trans rfl; have b22 := (blk_cell kb2 2).trans rfl; have b23 := (blk_cell kb2 3).trans rfl; have b24 := (blk_cell kb2 4).trans rfl; have b25 := (blk_cell kb2 5).trans rfl; have b26 := (blk_cell kb2 6).trans rfl; have x20 := (blk_cell kn2 0).trans rfl; have r20 := (blk_cell kr2 0).trans rfl; have y20 := blk_frozen kr2 0; have x21 := (blk_cell kn2 1).trans rfl; have r21 := (blk_cell kr2 1).trans rfl; have y21 := blk_frozen kr2 1; have x22 := (blk_cell kn2 2).trans rfl; have r22 := (blk_cell kr2 2).trans rfl; have y22 := blk_frozen kr2 2; have PW := Aside0.mk (And.intro hbW kr2); clear hb hbW kb2 kr2 kn2
  refine hK.out _ _ ⟨b20, b21, b22, b23, b24, b25, b26, x20, x21, x22⟩ (fun hHeld => ?_)
  clear hK K
  refine norm_ (a' := ?_) ?_ ?_
  rotate_left
  ·show Act.put _ (some 108) _ = _
   simp only [Act.put, List.setIfInBounds_toArray, List.set_cons_zero, List.set_cons_succ, i64_w, i32_w]
   rfl
  refine pure_ (i := 5) (N := some 109) (v := ?_) (a' := ?_) #[true, true, true, true, true, true, false, false, false, false, false, false, false, false] rfl rfl (any_of HT_.out (by kernel_rfl)) (fun _ _ _ h => h) (Or.inl ⟨by rfl, ?_⟩) ?_ ?_
  rotate_left
  ·intro w'
   go_simp
   with_reducible rfl
  rotate_left
  ·simp only [Act.put, List.setIfInBounds_toArray, List.set_cons_zero, List.set_cons_succ, i64_w, i32_w]
   rfl
  refine pure_ (i := 6) (N := some 110) (v := ?_) (a' := ?_) #[true, true, true, true, true, true, true, false, false, false, false, false, false, false] rfl rfl (any_of HT_.out (by kernel_rfl)) (fun _ _ _ h => h) (Or.inl ⟨by rfl, ?_⟩) ?_ ?_
  rotate_left
  ·intro w'
   go_simp
   with_reducible rfl
  rotate_left
  ·simp only [Act.put, List.setIfInBounds_toArray, List.set_cons_zero, List.set_cons_succ, i64_w, i32_w]
   rfl
  refine pure_ (i := 7) (N := some 111) (v := undef) (a' := ?_) #[true, true, true, true, true, true, true, true, false, false, false, false, false, false] rfl rfl (any_of HT_.out (by kernel_rfl)) (fun _ _ _ h => h) (Or.inr ⟨by rfl, rfl⟩) ?_ ?_
  rotate_left
  ·simp only [Act.put, List.setIfInBounds_toArray, List.set_cons_zero, List.set_cons_succ, i64_w, i32_w]
   rfl
  refine pure_ (i := 8) (N := some 112) (v := undef) (a' := ?_) #[true, true, true, true, true, true, true, true, true, false, false, false, false, false] rfl rfl (any_of HT_.out (by kernel_rfl)) (fun _ _ _ h => h) (Or.inr ⟨by rfl, rfl⟩) ?_ ?_
  rotate_left
  ·simp only [Act.put, List.setIfInBounds_toArray, List.set_cons_zero, List.set_cons_succ, i64_w, i32_w]
   rfl
  refine pure_ (i := 9) (N := some 113) (v := undef) (a' := ?_) #[true, true, true, true, true, true, true, true, true, true, false, false, false, false] rfl rfl (any_of HT_.out (by kernel_rfl)) (fun _ _ _ h => h) (Or.inr ⟨by rfl, rfl⟩) ?_ ?_
  rotate_left
  ·simp only [Act.put, List.setIfInBounds_toArray, List.set_cons_zero, List.set_cons_succ, i64_w, i32_w]
   rfl
  refine pure_ (i := 10) (N := some 114) (v := undef) (a' := ?_) #[true, true, true, true, true, true, true, true, true, true, true, false, false, false] rfl rfl (any_of HT_.out (by kernel_rfl)) (fun _ _ _ h => h) (Or.inr ⟨by rfl, rfl⟩) ?_ ?_
  rotate_left
  ·simp only [Act.put, List.setIfInBounds_toArray, List.set_cons_zero, List.set_cons_succ, i64_w, i32_w]
   rfl
  refine pure_ (i := 11) (N := some 115) (v := ?_) (a' := ?_) #[true, true, true, true, true, true, true, true, true, true, true, true, false, false] rfl rfl (any_of HT_.out (by kernel_rfl)) (fun _ _ _ h => h) (Or.inl ⟨by rfl, ?_⟩) ?_ ?_
  rotate_left
  ·intro w'
   go_simp
   with_reducible rfl
  rotate_left
  ·simp only [Act.put, List.setIfInBounds_toArray, List.set_cons_zero, List.set_cons_succ, i64_w, i32_w]
   rfl
  refine one_ (i := 12) (N := none) #[true, true, true, true, true, true, true, true, true, true, true, true, true, false] rfl rfl (one_of HT_.out (by kernel_rfl)) (by decide) (fun K hK => ?_)
  refine skip_ (w1 := ?_) (by rfl) rfl ?_ ?_
  rotate_left
  ·go_simp
   rfl
  have kb3 := off3 (PK.out.2.1 w' PW.out.1) (show w.heap.size ≠ w.heap.size + 1 by omega) (.int .u8 T) (.slice A1 m1 c1) (.slice A2 m2 c2)
  have kn3 := off3 (PK.out.2.2.1 w' PW.out.1) hne2 (.int .u8 T) (.slice A1 m1 c1) (.slice A2 m2 c2)
  refine hK.out _ _ ⟨(blk_cell kb3 0).trans rfl, (blk_cell kb3 1).trans rfl, (blk_cell kb3 2).trans rfl, (blk_cell kb3 3).trans rfl, (blk_cell kb3 4).trans rfl, (blk_cell kb3 5).trans rfl, (blk_cell kb3 6).trans rfl, (blk_cell kn3 0).trans rfl, (blk_cell kn3 1).trans rfl, (blk_cell kn3 2).trans rfl⟩ (fun hHeld => ?_)
  clear hK K kb3 kn3
  refine pure_ (i := 13) (N := some 5) (v := ?_) (a' := ?_) #[true, true, true, true, true, true, true, true, true, true, true, true, true, true] rfl rfl (any_of HT_.out (by kernel_rfl)) (fun _ _ _ h => h) (Or.inl ⟨by rfl, ?_⟩) ?_ ?_
  rotate_left
  ·intro w'
   go_simp
   with_reducible rfl
  rotate_left
  ·simp only [Act.put, List.setIfInBounds_toArray, List.set_cons_zero, List.set_cons_succ, i64_w, i32_w]
   rfl
  refine done_ (done_of HT_.out (by kernel_rfl)) ?_
  go_wp2
  have kf := put3 PW.out.2 (.int .u8 T) (.slice A1 m1 c1) (.slice A2 m2 c2)
  refine bodyPost_ret (results_ct rfl _ _ (w.heap.size + 1) 44 #[.int .u8 T, .slice A1 m1 c1, .slice A2 m2 c2] (0, 0) _ rfl (by first | exact kf | exact blk_drew kf) Tryz.underlying44 rfl (by kernel_rfl)) rfl ?_
  have hk1 : ∀ k, (start3 w #[.int .i64 i, .slice Ab nb cb, .string r, .slice Al nl cl, .string sr, .slice As ns cs, .int .i64 e]).heap.size ≤ k → k ≠ w.heap.size + 1 := fun k hk => by rw [start3_size] at hk; omega
  have hk2 : ∀ k, (start3 w #[.int .i64 i, .slice Ab nb cb, .string r, .slice Al nl cl, .string sr, .slice As ns cs, .int .i64 e]).heap.size ≤ k → w.heap.size ≤ k := fun k hk => by rw [start3_size] at hk; omega
  have q1 := far3 (Kd.V_below PK.out.2.2.2.1 PW.out.1) hk1 (.int .u8 T) (.slice A1 m1 c1) (.slice A2 m2 c2)
  have q2 := far3 (Kd.V_below PK.out.2.2.2.2.1 PW.out.1) hk1 (.int .u8 T) (.slice A1 m1 c1) (.slice A2 m2 c2)
  have q3 := set3 (below_step PK.out.2.2.2.2.2 PW.out.1) (Nat.le_succ w.heap.size) (.int .u8 T) (.slice A1 m1 c1) (.slice A2 m2 c2)
  exact ⟨_, _, rfl, by first | exact Kd.V_mono q1 hk2 | exact Kd.V_drew (Kd.V_mono q1 hk2), by first | exact Kd.V_mono q2 hk2 | exact Kd.V_drew (Kd.V_mono q2 hk2), by first | exact q3 | exact below_drew1 q3⟩
 ·skip
  rw [Bool.true_and]
  go_enter Tryz.func9, Tryz.ntmps9
  go_wp2_with (go_at_call 17; refine (PN.out _ (start3_below w #[.int .i64 i, .slice Ab nb cb, .string r, .slice Al nl cl, .string sr, .slice As ns cs, .int .i64 e])).mono ?_; rintro e' w1 ⟨v1, v2, rfl, hV1, hV2, hb⟩; obtain ⟨A1, c1, rfl⟩ := Kd.V_slice hV1; obtain ⟨A2, c2, rfl⟩ := Kd.V_slice hV2; generalize hm1 : body.length = m1 at hV1 ⊢; generalize hm2 : kids.length = m2 at hV2 ⊢; have P1 := Aside0.mk (And.intro hV1 (And.intro hV2 hb)); clear hV1 hV2 hb hm1 hm2)
  obtain ⟨o, ho⟩ : ∃ o, Obj.cells #[.int .u8 T, .slice A1 m1 c1, .slice A2 m2 c2] 44 = o := ⟨_, rfl⟩
  have kb := blk_alloc (blk_below (start3_0 w #[.int .i64 i, .slice Ab nb cb, .string r, .slice Al nl cl, .string sr, .slice As ns cs, .int .i64 e]) P1.out.2.2) o
  have kr := blk_alloc (blk_below (start3_1 w #[.int .i64 i, .slice Ab nb cb, .string r, .slice Al nl cl, .string sr, .slice As ns cs, .int .i64 e]) P1.out.2.2) o
  have kn := blk_new w1 o
  have hlt : w.heap.size + 2 < w1.heap.size := blk_lt (blk_below (start3_2 w #[.int .i64 i, .slice Ab nb cb, .string r, .slice Al nl cl, .string sr, .slice As ns cs, .int .i64 e]) P1.out.2.2)
  have hV1 := Kd.V_alloc P1.out.1 o
  have hV2 := Kd.V_alloc P1.out.2.1 o
  have hB := below_alloc (below_step (start3_below w #[.int .i64 i, .slice Ab nb cb, .string r, .slice Al nl cl, .string sr, .slice As ns cs, .int .i64 e]) P1.out.2.2) o
  rw [ho]
  generalize w1.alloc o = W at kb kr kn hV1 hV2 hB ⊢
  rw [← ho] at kn
  clear ho
  have b0 : W.cell? ⟨w.heap.size, 0, none⟩ = some (.int .i64 i) := (blk_cell kb 0).trans rfl
  have b1 : W.cell? ⟨w.heap.size, 1, none⟩ = some (.slice Ab nb cb) := (blk_cell kb 1).trans rfl
  have b2 : W.cell? ⟨w.heap.size, 2, none⟩ = some (.string r) := (blk_cell kb 2).trans rfl
  have b3 : W.cell? ⟨w.heap.size, 3, none⟩ = some (.slice Al nl cl) := (blk_cell kb 3).trans rfl
  have b4 : W.cell? ⟨w.heap.size, 4, none⟩ = some (.string sr) := (blk_cell kb 4).trans rfl
  have b5 : W.cell? ⟨w.heap.size, 5, none⟩ = some (.slice As ns cs) := (blk_cell kb 5).trans rfl
  have b6 : W.cell? ⟨w.heap.size, 6, none⟩ = some (.int .i64 e) := (blk_cell kb 6).trans rfl
  have x0 : W.cell? ⟨w1.heap.size, 0, none⟩ = some (.int .u8 T) := (blk_cell kn 0).trans rfl
  have x1 : W.cell? ⟨w1.heap.size, 1, none⟩ = some (.slice A1 m1 c1) := (blk_cell kn 1).trans rfl
  have x2 : W.cell? ⟨w1.heap.size, 2, none⟩ = some (.slice A2 m2 c2) := (blk_cell kn 2).trans rfl
  have r0 := (blk_cell kr 0).trans rfl
  have y0 := blk_frozen kr 0
  have r1 := (blk_cell kr 1).trans rfl
  have y1 := blk_frozen kr 1
  have r2 := (blk_cell kr 2).trans rfl
  have y2 := blk_frozen kr 2
  have PK := Aside0.mk (And.intro (fun (w' : World) (hb : Below W.heap.size W w') => blk_below kr hb) (And.intro (fun (w' : World) (hb : Below W.heap.size W w') => blk_below kb hb) (And.intro (fun (w' : World) (hb : Below W.heap.size W w') => blk_below kn hb) (And.intro hV1 (And.intro hV2 hB)))))
  have PW0 := Aside0.mk (And.intro (Below.refl W.heap.size W) kr)
  have hne : w.heap.size + 1 ≠ w1.heap.size := by omega
  have hne2 := hne.symm
  have hne3 : w.heap.size ≠ w1.heap.size := by omega
  have hne4 := hne3.symm
  clear kb kr kn hV1 hV2 hB P1 hlt
  refine start_ (n := 14) (S := fun w' => w'.cell? ⟨w.heap.size, 0, none⟩ = some (.int .i64 i) ∧ w'.cell? ⟨w.heap.size, 1, none⟩ = some (.slice Ab nb cb) ∧ w'.cell? ⟨w.heap.size, 2, none⟩ = some (.string r) ∧ w'.cell? ⟨w.heap.size, 3, none⟩ = some (.slice Al nl cl) ∧ w'.cell? ⟨w.heap.size, 4, none⟩ = some (.string sr) ∧ w'.cell? ⟨w.heap.size, 5, none⟩ = some (.slice As ns cs) ∧ w'.cell? ⟨w.heap.size, 6, none⟩ = some (.int .i64 e) ∧ w'.cell? ⟨w1.heap.size, 0, none⟩ = some (.int .u8 T) ∧ w'.cell? ⟨w1.heap.size, 1, none⟩ = some (.slice A1 m1 c1) ∧ w'.cell? ⟨w1.heap.size, 2, none⟩ = some (.slice A2 m2 c2)) (ds := []) #[false, false, false, false, false, false, false, false, false, false, false, false, false, false] (by kernel_rfl) rfl rfl ⟨b0, b1, b2, b3, b4, b5, b6, x0, x1, x2⟩ (fun hHeld => ?_)
  refine with_tabW st_tab18 st_bits18 (fun HT_ HW_ => ?_)
  refine pure_ (i := 1) (N := some 105) (v := ?_) (a' := ?_) #[false, true, false, false, false, false, false, false, false, false, false, false, false, false] rfl rfl (any_of HT_.out (by kernel_rfl)) (fun _ _ _ h => h) (Or.inl ⟨by rfl, ?_⟩) ?_ ?_
  rotate_left
  ·intro w'
   go_simp
   with_reducible rfl
  rotate_left
  ·simp only [Act.put, List.setIfInBounds_toArray, List.set_cons_zero, List.set_cons_succ, i64_w, i32_w]
   rfl
  refine pure_ (i := 2) (N := some 106) (v := ?_) (a' := ?_) #[false, true, true, false, false, false, false, false, false, false, false, false, false, false] rfl rfl (any_of HT_.out (by kernel_rfl)) (fun _ _ _ h => h) (Or.inl ⟨by rfl, ?_⟩) ?_ ?_
  rotate_left
  ·intro w'
   go_simp
   with_reducible rfl
  rotate_left
  ·simp only [Act.put, List.setIfInBounds_toArray, List.set_cons_zero, List.set_cons_succ, i64_w, i32_w]
   rfl
  refine take_ (i := 0) (N := some 104) (v := ?_) (a' := ?_) #[true, true, true, false, false, false, false, false, false, false, false, false, false, false] rfl rfl (take_ofW HT_.out HW_.out (by kernel_rfl)) (fun _ _ _ h => h) (Or.inl ⟨by rfl, ?_⟩) hHeld ?_ ?_
  rotate_left
  ·rintro w' ⟨s0, s1, s2, s3, s4, s5, s6, s7, s8, s9⟩
   go_simp
   with_reducible rfl
  rotate_left
  ·simp only [Act.put, List.setIfInBounds_toArray, List.set_cons_zero, List.set_cons_succ, i64_w, i32_w]
   rfl
  refine take_ (i := 3) (N := some 107) (v := ?_) (a' := ?_) #[true, true, true, true, false, false, false, false, false, false, false, false, false, false] rfl rfl (take_ofW HT_.out HW_.out (by kernel_rfl)) (fun _ _ _ h => h) (Or.inl ⟨by rfl, ?_⟩) hHeld ?_ ?_
  rotate_left
  ·rintro w' ⟨s0, s1, s2, s3, s4, s5, s6, s7, s8, s9⟩
   go_simp
   with_reducible rfl
  rotate_left
  ·simp only [Act.put, List.setIfInBounds_toArray, List.set_cons_zero, List.set_cons_succ, i64_w, i32_w]
   rfl
  refine one_ (i := 4) (N := some 108) #[true, true, true, true, true, false, false, false, false, false, false, false, false, false] rfl rfl (one_of HT_.out (by kernel_rfl)) (by decide) (fun K hK => ?_)
  refine goes_ Tryz.func18 (by kernel_rfl) rfl #[.agg #[.int .i64 i, .slice Ab nb cb, .string r, .slice Al nl cl, .string sr, .slice As ns cs, .int .i64 e], .int .u8 111] (by rfl) rfl rfl (by (try simp only [List.map_toArray, List.map_cons, List.map_nil]); first | done | rfl) ?_
  refine (PB.out _).mono ?_
  rintro e' w' ⟨rfl, hb⟩; refine ⟨_, rfl, ?_⟩; have hbW : Below W.heap.size W w' := (below_step (below_drew1 (Below.refl _ _)) hb); have kb2 := PK.out.2.1 w' hbW; have kr2 := PK.out.1 w' hbW; have kn2 := PK.out.2.2.1 w' hbW; have b20 := (blk_cell kb2 0).trans rfl; have b21 := (blk_cell kb2 1).trans rfl; have b22 := (blk_cell kb2 2).trans rfl; have b23 := (blk_cell kb2 3).trans rfl; have b24 := (blk_cell kb2 4).trans rfl; have b25 := (blk_cell kb2 5).trans rfl; have b26 := (blk_cell kb2 6).trans rfl; have x20 := (blk_cell kn2 0).trans rfl; have r20 := (blk_cell kr2 0).trans rfl; have y20 := blk_frozen kr2 0; have x21 := (blk_cell kn2 1).trans rfl; have r21 := (blk_cell kr2 1).trans rfl; have y21 := blk_frozen kr2 1; have x22 := (blk_cell kn2 2).trans rfl; have r22 := (blk_cell kr2 2).trans rfl; have y22 := blk_frozen kr2 2; have PW := Aside0.mk (And.intro hbW kr2); clear hb hbW kb2 kr2 kn2
  refine hK.out _ _ ⟨b20, b21, b22, b23, b24, b25, b26, x20, x21, x22⟩ (fun hHeld => ?_)
  clear hK K
  refine norm_ (a' := ?_) ?_ ?_
  rotate_left
  ·show Act.put _ (some 108) _ = _
   simp only [Act.put, List.setIfInBounds_toArray, List.set_cons_zero, List.set_cons_succ, i64_w, i32_w]
   rfl
  refine pure_ (i := 5) (N := some 109) (v := ?_) (a' := ?_) #[true, true, true, true, true, true, false, false, false, false, false, false, false, false] rfl rfl (any_of HT_.out (by kernel_rfl)) (fun _ _ _ h => h) (Or.inl ⟨by rfl, ?_⟩) ?_ ?_
  rotate_left
  ·intro w'
   go_simp
   with_reducible rfl
  rotate_left
  ·simp only [Act.put, List.setIfInBounds_toArray, List.set_cons_zero, List.set_cons_succ, i64_w, i32_w]
   rfl
  refine pure_ (i := 6) (N := some 110) (v := ?_) (a' := ?_) #[true, true, true, true, true, true, true, false, false, false, false, false, false, false] rfl rfl (any_of HT_.out (by kernel_rfl)) (fun _ _ _ h => h) (Or.inl ⟨by rfl, ?_⟩) ?_ ?_
  rotate_left
  ·intro w'
   go_simp
   with_reducible rfl
  rotate_left
  ·simp only [Act.put, List.setIfInBounds_toArray, List.set_cons_zero, List.set_cons_succ, i64_w, i32_w]
   rfl
  refine pure_ (i := 7) (N := some 111) (v := ?_) (a' := ?_) #[true, true, true, true, true, true, true, true, false, false, false, false, false, false] rfl rfl (any_of HT_.out (by kernel_rfl)) (fun _ _ _ h => h) (Or.inl ⟨by rfl, ?_⟩) ?_ ?_
  rotate_left
  ·intro w'
   go_simp
   with_reducible rfl
  rotate_left
  ·simp only [Act.put, List.setIfInBounds_toArray, List.set_cons_zero, List.set_cons_succ, i64_w, i32_w]
   rfl
  refine take_ (i := 8) (N := some 112) (v := ?_) (a' := ?_) #[true, true, true, true, true, true, true, true, true, false, false, false, false, false] rfl rfl (take_ofW HT_.out HW_.out (by kernel_rfl)) (fun _ _ _ h => h) (Or.inl ⟨by rfl, ?_⟩) hHeld ?_ ?_
  rotate_left
  ·rintro w' ⟨s0, s1, s2, s3, s4, s5, s6, s7, s8, s9⟩
   go_simp
   with_reducible rfl
  rotate_left
  ·simp only [Act.put, List.setIfInBounds_toArray, List.set_cons_zero, List.set_cons_succ, i64_w, i32_w]
   rfl
  refine pure_ (i := 9) (N := some 113) (v := ?_) (a' := ?_) #[true, true, true, true, true, true, true, true, true, true, false, false, false, false] rfl rfl (any_of HT_.out (by kernel_rfl)) (fun _ _ _ h => h) (Or.inl ⟨by rfl, ?_⟩) ?_ ?_
  rotate_left
  ·intro w'
   go_simp
   with_reducible rfl
  rotate_left
  ·simp only [Act.put, List.setIfInBounds_toArray, List.set_cons_zero, List.set_cons_succ, i64_w, i32_w]
   rfl
  refine pure_ (i := 10) (N := some 114) (v := ?_) (a' := ?_) #[true, true, true, true, true, true, true, true, true, true, true, false, false, false] rfl rfl (any_of HT_.out (by kernel_rfl)) (fun _ _ _ h => h) (Or.inl ⟨by rfl, ?_⟩) ?_ ?_
  rotate_left
  ·intro w'
   go_simp
   with_reducible rfl
  rotate_left
  ·simp only [Act.put, List.setIfInBounds_toArray, List.set_cons_zero, List.set_cons_succ, i64_w, i32_w]
   rfl
  refine pure_ (i := 11) (N := some 115) (v := ?_) (a' := ?_) #[true, true, true, true, true, true, true, true, true, true, true, true, false, false] rfl rfl (any_of HT_.out (by kernel_rfl)) (fun _ _ _ h => h) (Or.inl ⟨by rfl, ?_⟩) ?_ ?_
  rotate_left
  ·intro w'
   go_simp
   with_reducible rfl
  rotate_left
  ·simp only [Act.put, List.setIfInBounds_toArray, List.set_cons_zero, List.set_cons_succ, i64_w, i32_w]
   rfl
  refine one_ (i := 12) (N := none) #[true, true, true, true, true, true, true, true, true, true, true, true, true, false] rfl rfl (one_of HT_.out (by kernel_rfl)) (by decide) (fun K hK => ?_)
  refine skip_ (w1 := ?_) (by rfl) rfl ?_ ?_
  rotate_left
  ·go_simp
   rfl
  have kb3 := off3 (PK.out.2.1 w' PW.out.1) (show w.heap.size ≠ w.heap.size + 1 by omega) (.int .u8 T) (.slice A1 m1 c1) (.slice A2 m2 c2)
  have kn3 := off3 (PK.out.2.2.1 w' PW.out.1) hne2 (.int .u8 T) (.slice A1 m1 c1) (.slice A2 m2 c2)
  refine hK.out _ _ ⟨(blk_cell kb3 0).trans rfl, (blk_cell kb3 1).trans rfl, (blk_cell kb3 2).trans rfl, (blk_cell kb3 3).trans rfl, (blk_cell kb3 4).trans rfl, (blk_cell kb3 5).trans rfl, (blk_cell kb3 6).trans rfl, (blk_cell kn3 0).trans rfl, (blk_cell kn3 1).trans rfl, (blk_cell kn3 2).trans rfl⟩ (fun hHeld => ?_)
  clear hK K kb3 kn3
  refine pure_ (i := 13) (N := some 5) (v := ?_) (a' := ?_) #[true, true, true, true, true, true, true, true, true, true, true, true, true, true] rfl rfl (any_of HT_.out (by kernel_rfl)) (fun _ _ _ h => h) (Or.inl ⟨by rfl, ?_⟩) ?_ ?_
  rotate_left
  ·intro w'
   go_simp
   with_reducible rfl
  rotate_left
  ·simp only [Act.put, List.setIfInBounds_toArray, List.set_cons_zero, List.set_cons_succ, i64_w, i32_w]
   rfl
  refine done_ (done_of HT_.out (by kernel_rfl)) ?_
  go_wp2
  have kf := put3 PW.out.2 (.int .u8 T) (.slice A1 m1 c1) (.slice A2 m2 c2)
  refine bodyPost_ret (results_ct rfl _ _ (w.heap.size + 1) 44 #[.int .u8 T, .slice A1 m1 c1, .slice A2 m2 c2] (0, 0) _ rfl (by first | exact kf | exact blk_drew kf) Tryz.underlying44 rfl (by kernel_rfl)) rfl ?_
  have hk1 : ∀ k, (start3 w #[.int .i64 i, .slice Ab nb cb, .string r, .slice Al nl cl, .string sr, .slice As ns cs, .int .i64 e]).heap.size ≤ k → k ≠ w.heap.size + 1 := fun k hk => by rw [start3_size] at hk; omega
  have hk2 : ∀ k, (start3 w #[.int .i64 i, .slice Ab nb cb, .string r, .slice Al nl cl, .string sr, .slice As ns cs, .int .i64 e]).heap.size ≤ k → w.heap.size ≤ k := fun k hk => by rw [start3_size] at hk; omega
  have q1 := far3 (Kd.V_below PK.out.2.2.2.1 PW.out.1) hk1 (.int .u8 T) (.slice A1 m1 c1) (.slice A2 m2 c2)
  have q2 := far3 (Kd.V_below PK.out.2.2.2.2.1 PW.out.1) hk1 (.int .u8 T) (.slice A1 m1 c1) (.slice A2 m2 c2)
  have q3 := set3 (below_step PK.out.2.2.2.2.2 PW.out.1) (Nat.le_succ w.heap.size) (.int .u8 T) (.slice A1 m1 c1) (.slice A2 m2 c2)
  exact ⟨_, _, by rw [PQ.out]; rfl, by first | exact Kd.V_mono q1 hk2 | exact Kd.V_drew (Kd.V_mono q1 hk2), by first | exact Kd.V_mono q2 hk2 | exact Kd.V_drew (Kd.V_mono q2 hk2), by first | exact q3 | exact below_drew1 q3⟩
end Go.Proofs.YtncanijjnhkgbaaGreatDoor.PMsgsPut
namespace Go.Proofs.YtncanijjnhkgbaaGreatDoor.PMsgsPut
open Go.RowKit Go.Proofs.YtncanijjnhkgbaaGreatDoorW.PrintWords Go.Proofs.YtncanijjnhkgbaaGreatDoorW.PrintLast Go.Proofs.YtncanijjnhkgbaaGreatDoorW.PrintMore
def princG (ok : Bool) (r : ByteArray) (l : List ByteArray) : Int × List S44 × Int := if ok = true then (48, princK r l, 0) else (0, [], 91)
theorem princ_cases (a b : Bool) (n : Nat) : (a = true ∧ b = true ∧ 0 < n ∧ n ≤ 8) ∨ (a = false) ∨ (a = true ∧ b = false) ∨ (a = true ∧ b = true ∧ n = 0) ∨ (a = true ∧ b = true ∧ 8 < n) := by
 cases a <;> cases b <;> simp <;> omega
theorem princ_seq (w2 : World) (o : Obj) (r : ByteArray) (kids : List S44) (T : Int) (A1 : Option Addr) (c1 : Nat) (A2 : Option Addr) (c2 : Nat) (e1 e2 b1 b2 B0 : Nat) (hB0 : B0 ≤ w2.heap.size)
  (h1 : Kd.V (Kd.int .u8) e1 w2 b1 (fun k => B0 ≤ k) (.slice A1 r.size c1) (bytesOf r)) (h2 : Kd.V k44 e2 w2 b2 (fun k => B0 ≤ k) (.slice A2 kids.length c2) kids) (W : World)
  (hW : W = (w2.alloc o).alloc (.cells #[.iface 44 (.agg #[.int .u8 27, .slice A1 r.size c1, .slice none 0 0]), .iface 44 (.agg #[.int .u8 T, .slice none 0 0, .slice A2 kids.length c2])] 20)) :
  Calls Tryz.prog 49 #[.int .u8 48, .slice (some ⟨w2.heap.size + 1, 0, none⟩) 2 2] W fun e w' => ∃ v : Value, e = .returned (.tuple #[.agg #[.int .u8 48, .slice none 0 0, v], .bool true]) ∧ Kd.V k44 44 w' W.heap.size (fun k => B0 ≤ k) v [textN r, ⟨T, [], kids⟩] ∧ Below W.heap.size W w' := by
 have hk : W.heap[w2.heap.size + 1]? = some (.cells #[.iface 44 (.agg #[.int .u8 27, .slice A1 r.size c1, .slice none 0 0]), .iface 44 (.agg #[.int .u8 T, .slice none 0 0, .slice A2 kids.length c2])] 20) := by rw [hW]; exact blk_new1 _ _ _
 have hb : (textN r).f1.length = r.size := bytesOf_length r
 have f0 : Kd.FK k44 W (fun k => B0 ≤ k) (textN r) [.int .u8 27, .slice A1 r.size c1, .slice none 0 0] := by
  rw [hW]
  exact text_FK (Kd.V_alloc (Kd.V_alloc h1 _) _)
 have f1 : Kd.FK k44 W (fun k => B0 ≤ k) ⟨T, [], kids⟩ (cellsOf ⟨T, [], kids⟩ none 0 A2 c2) := by
  rw [hW]
  obtain ⟨_, h3, h4⟩ := Kd.V_at (Kd.V_alloc (Kd.V_alloc h2 o) (.cells #[.iface 44 (.agg #[.int .u8 27, .slice A1 r.size c1, .slice none 0 0]), .iface 44 (.agg #[.int .u8 T, .slice none 0 0, .slice A2 kids.length c2])] 20))
  exact k44_mkF _ _ ⟨T, [], kids⟩ (A1 := none) (c1 := 0) (Nat.le_refl _) (Kd.F_nil _ _ _) (A2 := A2) (c2 := c2) h3 h4
 refine seq_nodes W (w2.heap.size + 1) 2 (textN r) ⟨T, [], kids⟩ A1 c1 none 0 none 0 A2 c2 B0 ?_ ?_ ?_ ?_ f1
 ·rw [hW]
  simp only [World.alloc, Array.size_push]
  omega
 ·rw [hb]
  exact (blk_cell hk 0).trans rfl
 ·exact (blk_cell hk 1).trans rfl
 ·unfold cellsOf
  rw [hb]
  exact f0
set_option maxHeartbeats 8000000 in
theorem princ_calls (r : ByteArray) (A0 : Option Addr) (c0 : Nat) (l : List ByteArray) (w : World) (hr : Kd.C Kd.string w A0 l.length l) (hl : l.length ≤ 1048576) (hrs : r.size ≤ 1048576) (hs : ∀ s ∈ l, s.size ≤ 1048576) :
  Calls Tryz.prog 19 #[.agg #[.string r, .slice A0 l.length c0]] w fun e w' => ∃ v : Value, e = .returned (.tuple #[.agg #[.int .u8 (princG (princOk r l) r l).1, .slice none 0 0, v], .int .i64 (princG (princOk r l) r l).2.2]) ∧ Kd.V k44 44 w' w.heap.size (fun k => w.heap.size + 1 < k) v (princG (princOk r l) r l).2.1 ∧ Below w.heap.size w w' := by
 have PO := Aside0.mk (fun W => of_calls r hrs W)
 have PL := Aside0.mk (fun W (hC : Kd.C Kd.string W A0 l.length l) => list_calls A0 c0 l W hC hl hs)
 have PR := Aside0.mk hr
 have hq : princOk r l = ((genS r && lenB r) && (l.all wordB && (decide (1 ≤ l.length) && decide (l.length ≤ 8)))) := by
  unfold princOk
  rw [wordB_eq]
 obtain ⟨kids, hkids⟩ : ∃ kids, kids = (if l.all wordB = true then l.map textN else []) := ⟨_, rfl⟩
 obtain ⟨T, hT⟩ : ∃ T : Int, T = (if l.all wordB = true then 48 else 0) := ⟨_, rfl⟩
 have PK := Aside0.mk (And.intro hkids hT)
 rw [← hkids, ← hT] at PL
 obtain ⟨a, ha⟩ : ∃ a, a = (genS r && lenB r) := ⟨_, rfl⟩
 obtain ⟨b, hb⟩ : ∃ b, b = l.all wordB := ⟨_, rfl⟩
 obtain ⟨n, hn⟩ : ∃ n, n = l.length := ⟨_, rfl⟩
 rw [← ha] at PO hq
 rw [← hb] at PL PK hq
 rw [← hn] at PL PR hq hl ⊢
 clear hr hrs hs hkids hT ha hb hn
 obtain ⟨G, hG⟩ : ∃ G, G = princG (princOk r l) r l := ⟨_, rfl⟩
 rw [← hG]
 have PG := Aside0.mk (And.intro hG hq)
 clear hG hq
 have PC := Aside0.mk (princ_cases a b n)
 have PW := Aside0.mk hl
 clear hl
 rcases PC.out with ⟨h1, h2, h3, h4⟩ | h1 | ⟨h1, h2⟩ | ⟨h1, h2, h3⟩ | ⟨h1, h2, h3⟩
 ·have hGe : G = (48, [textN r, ⟨T, [], kids⟩], 0) := by
   obtain ⟨g1, g2⟩ := PG.out
   obtain ⟨g3, g4⟩ := PK.out
   rw [h2, if_pos rfl] at g3 g4
   rw [g1, g2, h1, h2, decide_eq_true (show 1 ≤ n from h3), decide_eq_true h4, g3, g4]
   rfl
  have h5 : (n : Int) ≤ 8 := by omega
  rw [hGe]
  clear hGe PG PK
  dsimp only
  subst h1 h2
  go_enter Tryz.func19, Tryz.ntmps19
  go_wp2_with (first
   | (go_at_call 46; refine (PO.out _).mono ?_; rintro e w1 ⟨A1, c1, rfl, hV1, hb1⟩; have k0 := blk_below (blk_alloc (blk_new w _) _) hb1; have k1 := blk_below (blk_new1 w _ _) hb1; have q0 := blk_lt k0; have q1 := blk_lt k1; have n0 := Nat.ne_of_lt q0; have n1 := Nat.ne_of_lt q1; have s0 := (blk_cell k0 1).trans rfl; have P1 := Aside0.mk (And.intro k0 (And.intro k1 (And.intro hV1 hb1))); clear k0 k1 hV1 hb1)
   | (go_at_call 48; refine (PL.out _ (Kd.C_alloc (Kd.C_below PR.out (below_step (below_alloc (below_alloc (Below.refl _ _) _) _) P1.out.2.2.2)) _)).mono ?_; rintro e w2 ⟨v2, rfl, hV2, hb2⟩; obtain ⟨A2, c2, rfl⟩ := Kd.V_slice hV2; have k0 := blk_below (blk_alloc P1.out.1 _) hb2; have k1 := blk_below (blk_alloc P1.out.2.1 _) hb2; have k2 := blk_below (blk_new w1 _) hb2; have q2 := blk_lt k2; have n2 := Nat.ne_of_lt q2; have t0 := (blk_cell k2 0).trans rfl; have t1 := (blk_cell k2 1).trans rfl; have t2 := (blk_cell k2 2).trans rfl; have P2 := Aside0.mk (And.intro k0 (And.intro k1 (And.intro k2 (And.intro hV2 hb2)))); clear s0 k0 k1 k2 hV2 hb2)
   | (go_at_call 49; refine (princ_seq w2 _ r kids T A1 c1 A2 c2 5 44 0 0 (w.heap.size + 2) ?hB0 ?hV1 ?hV2 _ rfl).mono ?_; (case hB0 => (have h1 := below_size P1.out.2.2.2; have h2 := below_size P2.out.2.2.2.2; simp only [World.alloc, Array.size_push] at h1 h2; omega)); (case hV1 => exact Kd.V_mono (Kd.V_below (Kd.V_alloc P1.out.2.2.1 _) P2.out.2.2.2.2) (fun k hk => by simp only [World.alloc, Array.size_push] at hk; omega)); (case hV2 => exact Kd.V_mono P2.out.2.2.2.1 (fun k hk => by have h1 := below_size P1.out.2.2.2; simp only [World.alloc, Array.size_push] at hk h1; omega)); rintro e w3 ⟨v3, rfl, hV3, hb3⟩; obtain ⟨A3, c3, rfl⟩ := Kd.V_slice hV3; have k0 := blk_below (blk_alloc (blk_alloc P2.out.1 _) _) hb3; have k1 := blk_below (blk_alloc (blk_alloc P2.out.2.1 _) _) hb3; have q3 := blk_lt k0; have n3 := Nat.ne_of_lt q3; have s0 := (blk_cell k0 1).trans rfl; have P3 := Aside0.mk (And.intro k0 (And.intro k1 (And.intro hV3 hb3))); clear t0 t1 t2 k0 k1 hV3 hb3)
   | (go_at_call 50; refine (put_true _ _ _ _ _ _ _ _).mono ?_; rintro e w4 ⟨rfl, hb4⟩; have k1 := blk_below (blk_alloc P3.out.2.1 _) hb4; have z0 := (blk_cell k1 0).trans rfl; have z1 := (blk_cell k1 1).trans rfl; have z2 := (blk_cell k1 2).trans rfl; have y0 := blk_frozen k1 0; have y1 := blk_frozen k1 1; have y2 := blk_frozen k1 2; have P4 := Aside0.mk (And.intro k1 hb4); clear s0 k1 hb4))
  have hB := below_step (below_alloc (below_step (below_alloc (below_alloc (below_step (below_alloc (below_step (below_alloc (below_alloc (Below.refl _ w) _) _) P1.out.2.2.2) _) P2.out.2.2.2.2) _) _) P3.out.2.2.2) _) P4.out.2
  refine bodyPost_ret (results_ct rfl _ _ (w.heap.size + 1) 44 #[.int .u8 48, .slice none 0 0, .slice A3 2 c3] (0, 0) _ rfl (blk_put (blk_put (blk_put P4.out.1 0 _ rfl) 1 _ rfl) 2 _ rfl) Tryz.underlying44 rfl (by kernel_rfl)) rfl ?_
  have hne : ∀ k, w.heap.size + 2 ≤ k → k ≠ w.heap.size + 1 := fun k hk => by omega
  have hV := Kd.V_far (p := ⟨w.heap.size + 1, 2, none⟩) (Kd.V_far (p := ⟨w.heap.size + 1, 1, none⟩) (Kd.V_far (p := ⟨w.heap.size + 1, 0, none⟩) (Kd.V_below (Kd.V_alloc P3.out.2.2.1 _) P4.out.2) hne (.int .u8 48)) hne (.slice none 0 0)) hne (.slice A3 2 c3)
  exact ⟨_, rfl, Kd.V_mono hV (fun k hk => by omega), below_set (below_set (below_set hB (Nat.le_succ _)) (Nat.le_succ _)) (Nat.le_succ _)⟩
 ·have hGe : G = (0, [], 91) := by
   obtain ⟨g1, g2⟩ := PG.out
   rw [g1, g2, h1]
   rfl
  rw [hGe]
  clear hGe PG PK
  dsimp only
  subst h1
  go_enter Tryz.func19, Tryz.ntmps19
  go_wp2_with (first
   | (go_at_call 46; refine (PO.out _).mono ?_; rintro e w1 ⟨A1, c1, rfl, hV1, hb1⟩; have k0 := blk_below (blk_alloc (blk_new w _) _) hb1; have k1 := blk_below (blk_new1 w _ _) hb1; have q0 := blk_lt k0; have q1 := blk_lt k1; have n0 := Nat.ne_of_lt q0; have n1 := Nat.ne_of_lt q1; have s0 := (blk_cell k0 1).trans rfl; have P1 := Aside0.mk (And.intro k0 (And.intro k1 (And.intro hV1 hb1))); clear k0 k1 hV1 hb1)
   | (go_at_call 48; refine (PL.out _ (Kd.C_alloc (Kd.C_below PR.out (below_step (below_alloc (below_alloc (Below.refl _ _) _) _) P1.out.2.2.2)) _)).mono ?_; rintro e w2 ⟨v2, rfl, hV2, hb2⟩; obtain ⟨A2, c2, rfl⟩ := Kd.V_slice hV2; have k0 := blk_below (blk_alloc P1.out.1 _) hb2; have k1 := blk_below (blk_alloc P1.out.2.1 _) hb2; have k2 := blk_below (blk_new w1 _) hb2; have q2 := blk_lt k2; have n2 := Nat.ne_of_lt q2; have t0 := (blk_cell k2 0).trans rfl; have t1 := (blk_cell k2 1).trans rfl; have t2 := (blk_cell k2 2).trans rfl; have P2 := Aside0.mk (And.intro k0 (And.intro k1 (And.intro k2 (And.intro hV2 hb2)))); clear s0 k0 k1 k2 hV2 hb2)
   | (go_at_call 49; refine (princ_seq w2 _ r kids T A1 c1 A2 c2 5 44 0 0 (w.heap.size + 2) ?hB0 ?hV1 ?hV2 _ rfl).mono ?_; (case hB0 => (have h1 := below_size P1.out.2.2.2; have h2 := below_size P2.out.2.2.2.2; simp only [World.alloc, Array.size_push] at h1 h2; omega)); (case hV1 => exact Kd.V_mono (Kd.V_below (Kd.V_alloc P1.out.2.2.1 _) P2.out.2.2.2.2) (fun k hk => by simp only [World.alloc, Array.size_push] at hk; omega)); (case hV2 => exact Kd.V_mono P2.out.2.2.2.1 (fun k hk => by have h1 := below_size P1.out.2.2.2; simp only [World.alloc, Array.size_push] at hk h1; omega)); rintro e w3 ⟨v3, rfl, hV3, hb3⟩; obtain ⟨A3, c3, rfl⟩ := Kd.V_slice hV3; have k0 := blk_below (blk_alloc (blk_alloc P2.out.1 _) _) hb3; have k1 := blk_below (blk_alloc (blk_alloc P2.out.2.1 _) _) hb3; have q3 := blk_lt k0; have n3 := Nat.ne_of_lt q3; have s0 := (blk_cell k0 1).trans rfl; have P3 := Aside0.mk (And.intro k0 (And.intro k1 (And.intro hV3 hb3))); clear t0 t1 t2 k0 k1 hV3 hb3)
   | (go_at_call 50; refine (put_false _ _ _ _ _ _ _ _).mono ?_; rintro e w4 ⟨rfl, hb4⟩; have k1 := blk_below (blk_alloc P3.out.2.1 _) hb4; have z0 := (blk_cell k1 0).trans rfl; have z1 := (blk_cell k1 1).trans rfl; have z2 := (blk_cell k1 2).trans rfl; have y0 := blk_frozen k1 0; have y1 := blk_frozen k1 1; have y2 := blk_frozen k1 2; have P4 := Aside0.mk (And.intro k1 hb4); clear s0 k1 hb4))
  have hB := below_step (below_alloc (below_step (below_alloc (below_alloc (below_step (below_alloc (below_step (below_alloc (below_alloc (Below.refl _ w) _) _) P1.out.2.2.2) _) P2.out.2.2.2.2) _) _) P3.out.2.2.2) _) P4.out.2
  refine bodyPost_ret (results_ct rfl _ _ (w.heap.size + 1) 44 #[.int .u8 0, .slice none 0 0, .slice none 0 0] (0, 0) _ rfl (blk_put (blk_put (blk_put P4.out.1 0 _ rfl) 1 _ rfl) 2 _ rfl) Tryz.underlying44 rfl (by kernel_rfl)) rfl ?_
  exact ⟨_, rfl, Kd.V_nil _ _ _ _ _, below_set (below_set (below_set hB (Nat.le_succ _)) (Nat.le_succ _)) (Nat.le_succ _)⟩
 ·have hGe : G = (0, [], 91) := by
   obtain ⟨g1, g2⟩ := PG.out
   rw [g1, g2, h1, h2]
   rfl
  rw [hGe]
  clear hGe PG PK
  dsimp only
  subst h1 h2
  go_enter Tryz.func19, Tryz.ntmps19
  go_wp2_with (first
   | (go_at_call 46; refine (PO.out _).mono ?_; rintro e w1 ⟨A1, c1, rfl, hV1, hb1⟩; have k0 := blk_below (blk_alloc (blk_new w _) _) hb1; have k1 := blk_below (blk_new1 w _ _) hb1; have q0 := blk_lt k0; have q1 := blk_lt k1; have n0 := Nat.ne_of_lt q0; have n1 := Nat.ne_of_lt q1; have s0 := (blk_cell k0 1).trans rfl; have P1 := Aside0.mk (And.intro k0 (And.intro k1 (And.intro hV1 hb1))); clear k0 k1 hV1 hb1)
   | (go_at_call 48; refine (PL.out _ (Kd.C_alloc (Kd.C_below PR.out (below_step (below_alloc (below_alloc (Below.refl _ _) _) _) P1.out.2.2.2)) _)).mono ?_; rintro e w2 ⟨v2, rfl, hV2, hb2⟩; obtain ⟨A2, c2, rfl⟩ := Kd.V_slice hV2; have k0 := blk_below (blk_alloc P1.out.1 _) hb2; have k1 := blk_below (blk_alloc P1.out.2.1 _) hb2; have k2 := blk_below (blk_new w1 _) hb2; have q2 := blk_lt k2; have n2 := Nat.ne_of_lt q2; have t0 := (blk_cell k2 0).trans rfl; have t1 := (blk_cell k2 1).trans rfl; have t2 := (blk_cell k2 2).trans rfl; have P2 := Aside0.mk (And.intro k0 (And.intro k1 (And.intro k2 (And.intro hV2 hb2)))); clear s0 k0 k1 k2 hV2 hb2)
   | (go_at_call 49; refine (princ_seq w2 _ r kids T A1 c1 A2 c2 5 44 0 0 (w.heap.size + 2) ?hB0 ?hV1 ?hV2 _ rfl).mono ?_; (case hB0 => (have h1 := below_size P1.out.2.2.2; have h2 := below_size P2.out.2.2.2.2; simp only [World.alloc, Array.size_push] at h1 h2; omega)); (case hV1 => exact Kd.V_mono (Kd.V_below (Kd.V_alloc P1.out.2.2.1 _) P2.out.2.2.2.2) (fun k hk => by simp only [World.alloc, Array.size_push] at hk; omega)); (case hV2 => exact Kd.V_mono P2.out.2.2.2.1 (fun k hk => by have h1 := below_size P1.out.2.2.2; simp only [World.alloc, Array.size_push] at hk h1; omega)); rintro e w3 ⟨v3, rfl, hV3, hb3⟩; obtain ⟨A3, c3, rfl⟩ := Kd.V_slice hV3; have k0 := blk_below (blk_alloc (blk_alloc P2.out.1 _) _) hb3; have k1 := blk_below (blk_alloc (blk_alloc P2.out.2.1 _) _) hb3; have q3 := blk_lt k0; have n3 := Nat.ne_of_lt q3; have s0 := (blk_cell k0 1).trans rfl; have P3 := Aside0.mk (And.intro k0 (And.intro k1 (And.intro hV3 hb3))); clear t0 t1 t2 k0 k1 hV3 hb3)
   | (go_at_call 50; refine (put_false _ _ _ _ _ _ _ _).mono ?_; rintro e w4 ⟨rfl, hb4⟩; have k1 := blk_below (blk_alloc P3.out.2.1 _) hb4; have z0 := (blk_cell k1 0).trans rfl; have z1 := (blk_cell k1 1).trans rfl; have z2 := (blk_cell k1 2).trans rfl; have y0 := blk_frozen k1 0; have y1 := blk_frozen k1 1; have y2 := blk_frozen k1 2; have P4 := Aside0.mk (And.intro k1 hb4); clear s0 k1 hb4))
  have hB := below_step (below_alloc (below_step (below_alloc (below_alloc (below_step (below_alloc (below_step (below_alloc (below_alloc (Below.refl _ w) _) _) P1.out.2.2.2) _) P2.out.2.2.2.2) _) _) P3.out.2.2.2) _) P4.out.2
  refine bodyPost_ret (results_ct rfl _ _ (w.heap.size + 1) 44 #[.int .u8 0, .slice none 0 0, .slice none 0 0] (0, 0) _ rfl (blk_put (blk_put (blk_put P4.out.1 0 _ rfl) 1 _ rfl) 2 _ rfl) Tryz.underlying44 rfl (by kernel_rfl)) rfl ?_
  exact ⟨_, rfl, Kd.V_nil _ _ _ _ _, below_set (below_set (below_set hB (Nat.le_succ _)) (Nat.le_succ _)) (Nat.le_succ _)⟩
 ·have hGe : G = (0, [], 91) := by
   obtain ⟨g1, g2⟩ := PG.out
   rw [g1, g2, h1, h2, decide_eq_false (show ¬ 1 ≤ n by omega)]
   rfl
  rw [hGe]
  clear hGe PG PK
  dsimp only
  subst h1 h2 h3
  go_enter Tryz.func19, Tryz.ntmps19
  go_wp2_with (first
   | (go_at_call 46; refine (PO.out _).mono ?_; rintro e w1 ⟨A1, c1, rfl, hV1, hb1⟩; have k0 := blk_below (blk_alloc (blk_new w _) _) hb1; have k1 := blk_below (blk_new1 w _ _) hb1; have q0 := blk_lt k0; have q1 := blk_lt k1; have n0 := Nat.ne_of_lt q0; have n1 := Nat.ne_of_lt q1; have s0 := (blk_cell k0 1).trans rfl; have P1 := Aside0.mk (And.intro k0 (And.intro k1 (And.intro hV1 hb1))); clear k0 k1 hV1 hb1)
   | (go_at_call 48; refine (PL.out _ (Kd.C_alloc (Kd.C_below PR.out (below_step (below_alloc (below_alloc (Below.refl _ _) _) _) P1.out.2.2.2)) _)).mono ?_; rintro e w2 ⟨v2, rfl, hV2, hb2⟩; obtain ⟨A2, c2, rfl⟩ := Kd.V_slice hV2; have k0 := blk_below (blk_alloc P1.out.1 _) hb2; have k1 := blk_below (blk_alloc P1.out.2.1 _) hb2; have k2 := blk_below (blk_new w1 _) hb2; have q2 := blk_lt k2; have n2 := Nat.ne_of_lt q2; have t0 := (blk_cell k2 0).trans rfl; have t1 := (blk_cell k2 1).trans rfl; have t2 := (blk_cell k2 2).trans rfl; have P2 := Aside0.mk (And.intro k0 (And.intro k1 (And.intro k2 (And.intro hV2 hb2)))); clear s0 k0 k1 k2 hV2 hb2)
   | (go_at_call 49; refine (princ_seq w2 _ r kids T A1 c1 A2 c2 5 44 0 0 (w.heap.size + 2) ?hB0 ?hV1 ?hV2 _ rfl).mono ?_; (case hB0 => (have h1 := below_size P1.out.2.2.2; have h2 := below_size P2.out.2.2.2.2; simp only [World.alloc, Array.size_push] at h1 h2; omega)); (case hV1 => exact Kd.V_mono (Kd.V_below (Kd.V_alloc P1.out.2.2.1 _) P2.out.2.2.2.2) (fun k hk => by simp only [World.alloc, Array.size_push] at hk; omega)); (case hV2 => exact Kd.V_mono P2.out.2.2.2.1 (fun k hk => by have h1 := below_size P1.out.2.2.2; simp only [World.alloc, Array.size_push] at hk h1; omega)); rintro e w3 ⟨v3, rfl, hV3, hb3⟩; obtain ⟨A3, c3, rfl⟩ := Kd.V_slice hV3; have k0 := blk_below (blk_alloc (blk_alloc P2.out.1 _) _) hb3; have k1 := blk_below (blk_alloc (blk_alloc P2.out.2.1 _) _) hb3; have q3 := blk_lt k0; have n3 := Nat.ne_of_lt q3; have s0 := (blk_cell k0 1).trans rfl; have P3 := Aside0.mk (And.intro k0 (And.intro k1 (And.intro hV3 hb3))); clear t0 t1 t2 k0 k1 hV3 hb3)
   | (go_at_call 50; refine (put_false _ _ _ _ _ _ _ _).mono ?_; rintro e w4 ⟨rfl, hb4⟩; have k1 := blk_below (blk_alloc P3.out.2.1 _) hb4; have z0 := (blk_cell k1 0).trans rfl; have z1 := (blk_cell k1 1).trans rfl; have z2 := (blk_cell k1 2).trans rfl; have y0 := blk_frozen k1 0; have y1 := blk_frozen k1 1; have y2 := blk_frozen k1 2; have P4 := Aside0.mk (And.intro k1 hb4); clear s0 k1 hb4))
  have hB := below_step (below_alloc (below_step (below_alloc (below_alloc (below_step (below_alloc (below_step (below_alloc (below_alloc (Below.refl _ w) _) _) P1.out.2.2.2) _) P2.out.2.2.2.2) _) _) P3.out.2.2.2) _) P4.out.2
  refine bodyPost_ret (results_ct rfl _ _ (w.heap.size + 1) 44 #[.int .u8 0, .slice none 0 0, .slice none 0 0] (0, 0) _ rfl (blk_put (blk_put (blk_put P4.out.1 0 _ rfl) 1 _ rfl) 2 _ rfl) Tryz.underlying44 rfl (by kernel_rfl)) rfl ?_
  exact ⟨_, rfl, Kd.V_nil _ _ _ _ _, below_set (below_set (below_set hB (Nat.le_succ _)) (Nat.le_succ _)) (Nat.le_succ _)⟩
 ·have hGe : G = (0, [], 91) := by
   obtain ⟨g1, g2⟩ := PG.out
   rw [g1, g2, h1, h2, decide_eq_true (show 1 ≤ n by omega), decide_eq_false (show ¬ n ≤ 8 by omega)]
   rfl
  have h5 : decide ((n : Int) ≤ 8) = false := decide_eq_false (by omega)
  have h6 : 0 < n := by omega
  have PH := Aside0.mk h5
  clear h5
  rw [hGe]
  clear hGe PG PK
  dsimp only
  subst h1 h2
  go_enter Tryz.func19, Tryz.ntmps19
  go_wp2_with (first
   | (go_at_call 46; refine (PO.out _).mono ?_; rintro e w1 ⟨A1, c1, rfl, hV1, hb1⟩; have k0 := blk_below (blk_alloc (blk_new w _) _) hb1; have k1 := blk_below (blk_new1 w _ _) hb1; have q0 := blk_lt k0; have q1 := blk_lt k1; have n0 := Nat.ne_of_lt q0; have n1 := Nat.ne_of_lt q1; have s0 := (blk_cell k0 1).trans rfl; have P1 := Aside0.mk (And.intro k0 (And.intro k1 (And.intro hV1 hb1))); clear k0 k1 hV1 hb1)
   | (go_at_call 48; refine (PL.out _ (Kd.C_alloc (Kd.C_below PR.out (below_step (below_alloc (below_alloc (Below.refl _ _) _) _) P1.out.2.2.2)) _)).mono ?_; rintro e w2 ⟨v2, rfl, hV2, hb2⟩; obtain ⟨A2, c2, rfl⟩ := Kd.V_slice hV2; have k0 := blk_below (blk_alloc P1.out.1 _) hb2; have k1 := blk_below (blk_alloc P1.out.2.1 _) hb2; have k2 := blk_below (blk_new w1 _) hb2; have q2 := blk_lt k2; have n2 := Nat.ne_of_lt q2; have t0 := (blk_cell k2 0).trans rfl; have t1 := (blk_cell k2 1).trans rfl; have t2 := (blk_cell k2 2).trans rfl; have P2 := Aside0.mk (And.intro k0 (And.intro k1 (And.intro k2 (And.intro hV2 hb2)))); clear s0 k0 k1 k2 hV2 hb2)
   | (go_at_call 49; refine (princ_seq w2 _ r kids T A1 c1 A2 c2 5 44 0 0 (w.heap.size + 2) ?hB0 ?hV1 ?hV2 _ rfl).mono ?_; (case hB0 => (have h1 := below_size P1.out.2.2.2; have h2 := below_size P2.out.2.2.2.2; simp only [World.alloc, Array.size_push] at h1 h2; omega)); (case hV1 => exact Kd.V_mono (Kd.V_below (Kd.V_alloc P1.out.2.2.1 _) P2.out.2.2.2.2) (fun k hk => by simp only [World.alloc, Array.size_push] at hk; omega)); (case hV2 => exact Kd.V_mono P2.out.2.2.2.1 (fun k hk => by have h1 := below_size P1.out.2.2.2; simp only [World.alloc, Array.size_push] at hk h1; omega)); rintro e w3 ⟨v3, rfl, hV3, hb3⟩; obtain ⟨A3, c3, rfl⟩ := Kd.V_slice hV3; have k0 := blk_below (blk_alloc (blk_alloc P2.out.1 _) _) hb3; have k1 := blk_below (blk_alloc (blk_alloc P2.out.2.1 _) _) hb3; have q3 := blk_lt k0; have n3 := Nat.ne_of_lt q3; have s0 := (blk_cell k0 1).trans rfl; have P3 := Aside0.mk (And.intro k0 (And.intro k1 (And.intro hV3 hb3))); clear t0 t1 t2 k0 k1 hV3 hb3)
   | (go_at_call 50; rw [PH.out]; refine (put_false _ _ _ _ _ _ _ _).mono ?_; rintro e w4 ⟨rfl, hb4⟩; have k1 := blk_below (blk_alloc P3.out.2.1 _) hb4; have z0 := (blk_cell k1 0).trans rfl; have z1 := (blk_cell k1 1).trans rfl; have z2 := (blk_cell k1 2).trans rfl; have y0 := blk_frozen k1 0; have y1 := blk_frozen k1 1; have y2 := blk_frozen k1 2; have P4 := Aside0.mk (And.intro k1 hb4); clear s0 k1 hb4))
  have hB := below_step (below_alloc (below_step (below_alloc (below_alloc (below_step (below_alloc (below_step (below_alloc (below_alloc (Below.refl _ w) _) _) P1.out.2.2.2) _) P2.out.2.2.2.2) _) _) P3.out.2.2.2) _) P4.out.2
  refine bodyPost_ret (results_ct rfl _ _ (w.heap.size + 1) 44 #[.int .u8 0, .slice none 0 0, .slice none 0 0] (0, 0) _ rfl (blk_put (blk_put (blk_put P4.out.1 0 _ rfl) 1 _ rfl) 2 _ rfl) Tryz.underlying44 rfl (by kernel_rfl)) rfl ?_
  exact ⟨_, rfl, Kd.V_nil _ _ _ _ _, below_set (below_set (below_set hB (Nat.le_succ _)) (Nat.le_succ _)) (Nat.le_succ _)⟩
end Go.Proofs.YtncanijjnhkgbaaGreatDoor.PMsgsPut
namespace Go.Proofs.YtncanijjnhkgbaaGreatDoor.PMsgsPut
open Go.RowKit Go.Proofs.YtncanijjnhkgbaaGreatDoorW.PrintWords Go.Proofs.YtncanijjnhkgbaaGreatDoorW.PrintLast Go.Proofs.YtncanijjnhkgbaaGreatDoorW.PrintMore
theorem row1_F {α : Type} {d : Kd α} {W : World} {ok : Nat → Prop} {g e : Nat} {x : α} {cs : List Value} (hk : W.heap[g]? = some (.cells cs.toArray e)) (hF : Kd.FK d W ok x cs) (hg : ok g) : Kd.F d W ok (some ⟨g, 0, none⟩) 1 [x] := fun W' hW => by
 have hk' : W'.heap[g]? = some (.cells cs.toArray e) := (hW g hg (blk_lt hk)).trans hk
 refine ⟨rfl, by decide, fun _ => ⟨_, rfl, fun j p hj => ?_⟩⟩
 cases j with
 | zero =>
  have : x = p := by simpa using hj
  subst this
  refine ⟨cs, d.K_len (hF W' hW), hF W' hW, fun i u hu => ?_⟩
  have ha : (⟨g, 0, none⟩ : Addr).add (0 * d.sz + i) = ⟨g, i, none⟩ := by
   rw [Nat.zero_mul, Nat.zero_add]
   cases i <;> simp [Addr.add]
  rw [ha, blk_cell hk' i]
  simpa using hu
 | succ j => simp at hj
def inR (e : Int) : Bool := decide (0 ≤ e) && decide (e < 281474976710656)
def handleN (e : Int) : S44 := ⟨4, if inR e = true then hE e else [], []⟩
theorem handle_calls (e : Int) (w : World) :
  Calls Tryz.prog 17 #[.iface 55 (.int .i64 e)] w fun e' w' => ∃ A c B d, e' = .returned (.tuple #[.agg #[.int .u8 (handleN e).f0, .slice A (handleN e).f1.length c, .slice B (handleN e).f2.length d], .bool (inR e)]) ∧ Kd.FK k44 w' (fun k => w.heap.size ≤ k) (handleN e) (cellsOf (handleN e) A c B d) ∧ Below w.heap.size w w' := by
 have hf : wire_Node_wireHandle.f e = some (4, (handleN e).f1, [], inR e) := by
  unfold wire_Node_wireHandle.f handleN inR
  by_cases h : 0 ≤ e ∧ e < 281474976710656
  ·rw [if_pos h, decide_eq_true h.1, decide_eq_true h.2]
   rfl
  ·rw [if_neg h]
   by_cases h1 : 0 ≤ e
   ·rw [decide_eq_true h1, decide_eq_false (fun h2 => h ⟨h1, h2⟩)]
    rfl
   ·rw [decide_eq_false h1]
    rfl
 refine (wire_Node_wireHandle.calls e _ _ _ _ w hf).mono ?_
 rintro e' w' ⟨v1, v2, rfl, hV1, hV2, hb⟩
 obtain ⟨A, c, rfl⟩ := Kd.V_slice hV1
 obtain ⟨B, d, rfl⟩ := Kd.V_slice hV2
 obtain ⟨_, h1, h2⟩ := Kd.V_at hV1
 obtain ⟨_, h3, h4⟩ := Kd.V_at hV2
 exact ⟨A, c, B, d, rfl, k44_mkF _ _ (handleN e) h1 h2 h3 h4, hb⟩
theorem ticket_seq (w2 : World) (o : Obj) (t e : Int) (kids : List S44) (A2 : Option Addr) (c2 : Nat) (e2 b2 B0 : Nat) (hB0 : B0 ≤ w2.heap.size)
  (h2 : Kd.V k44 e2 w2 b2 (fun k => B0 ≤ k) (.slice A2 kids.length c2) kids) (W : World)
  (hW : W = (w2.alloc o).alloc (.cells #[.iface 44 (.agg #[.int .u8 t, .slice none 0 0, .slice A2 kids.length c2]), .iface 55 (.int .i64 e)] 20)) :
  Calls Tryz.prog 49 #[.int .u8 48, .slice (some ⟨w2.heap.size + 1, 0, none⟩) 2 2] W fun e' w' => ∃ v : Value, e' = .returned (.tuple #[.agg #[.int .u8 (if inR e = true then 48 else 0), .slice none 0 0, v], .bool (inR e)]) ∧ Kd.V k44 44 w' W.heap.size (fun k => B0 ≤ k) v (if inR e = true then [⟨t, [], kids⟩, handleN e] else []) ∧ Below W.heap.size W w' := by
 have hk : W.heap[w2.heap.size + 1]? = some (.cells #[.iface 44 (.agg #[.int .u8 t, .slice none 0 0, .slice A2 kids.length c2]), .iface 55 (.int .i64 e)] 20) := by rw [hW]; exact blk_new1 _ _ _
 have f0 : Kd.FK k44 W (fun k => B0 ≤ k) ⟨t, [], kids⟩ (cellsOf ⟨t, [], kids⟩ none 0 A2 c2) := by
  rw [hW]
  obtain ⟨_, h3, h4⟩ := Kd.V_at (Kd.V_alloc (Kd.V_alloc h2 o) (.cells #[.iface 44 (.agg #[.int .u8 t, .slice none 0 0, .slice A2 kids.length c2]), .iface 55 (.int .i64 e)] 20))
  exact k44_mkF _ _ ⟨t, [], kids⟩ (A1 := none) (c1 := 0) (Nat.le_refl _) (Kd.F_nil _ _ _) (A2 := A2) (c2 := c2) h3 h4
 have hB : B0 ≤ W.heap.size := by
  rw [hW]
  simp only [World.alloc, Array.size_push]
  omega
 have h := seq_calls 2 (by decide) ⟨w2.heap.size + 1, 0, none⟩ 2 (pairX (.iface 44 (.agg #[.int .u8 t, .slice none 0 0, .slice A2 kids.length c2])) (.iface 55 (.int .i64 e))) (pairN ⟨t, [], kids⟩ (handleN e)) (fun i => if i = 0 then true else inR e) B0 W
  (fun i hi => by
   have : i = 0 ∨ i = 1 := by omega
   rcases this with rfl | rfl
   ·exact (blk_cell hk 0).trans rfl
   ·exact (blk_cell hk 1).trans rfl)
  (fun i hi W1 hb => by
   have : i = 0 ∨ i = 1 := by omega
   rcases this with rfl | rfl
   ·refine (node_node t none 0 0 A2 kids.length c2 W1).mono ?_
    rintro e' w' ⟨rfl, hb'⟩
    exact ⟨none, 0, A2, c2, rfl, Kd.FK_mono (Kd.FK_below (Kd.FK_bound f0) (hb.trans (hb'.mono hb.size))) (fun k hk => .inl hk), hb'⟩
   ·refine (handle_calls e W1).mono ?_
    rintro e' w' ⟨A, c, B, d, rfl, hF, hb'⟩
    exact ⟨A, c, B, d, rfl, Kd.FK_mono hF (fun k hk => .inr hk), hb'⟩) hB
 have hall : (List.range 2).all (fun i => if i = 0 then true else inR e) = inR e := by
  show (true && (inR e && true)) = inR e
  rw [Bool.true_and, Bool.and_true]
 rw [hall] at h
 exact h
end Go.Proofs.YtncanijjnhkgbaaGreatDoor.PMsgsPut
namespace Go.Proofs.YtncanijjnhkgbaaGreatDoor.PMsgsPut
open Go.RowKit Go.Proofs.YtncanijjnhkgbaaGreatDoorW.PrintWords Go.Proofs.YtncanijjnhkgbaaGreatDoorW.PrintLast Go.Proofs.YtncanijjnhkgbaaGreatDoorW.PrintMore
def ticketG (ok : Bool) (r : ByteArray) (l : List ByteArray) (e : Int) : Int × List S44 × Int := if ok = true then (97, [⟨48, [], [⟨48, [], princK r l⟩, ⟨4, hE e, []⟩]⟩], 0) else (0, [], 172)
set_option maxHeartbeats 8000000 in
theorem ticket_calls (r : ByteArray) (A0 : Option Addr) (c0 : Nat) (l : List ByteArray) (e : Int) (w : World) (hr : Kd.C Kd.string w A0 l.length l) (hl : l.length ≤ 1048576) (hrs : r.size ≤ 1048576) (hs : ∀ s ∈ l, s.size ≤ 1048576) :
  Calls Tryz.prog 20 #[.agg #[.string r, .slice A0 l.length c0, .int .i64 e]] w fun e' w' => ∃ v : Value, e' = .returned (.tuple #[.agg #[.int .u8 (ticketG (princOk r l && inR e) r l e).1, .slice none 0 0, v], .int .i64 (ticketG (princOk r l && inR e) r l e).2.2]) ∧ Kd.V k44 44 w' w.heap.size (fun k => w.heap.size + 1 < k) v (ticketG (princOk r l && inR e) r l e).2.1 ∧ Below w.heap.size w w' := by
 have PL := Aside0.mk (fun W (hC : Kd.C Kd.string W A0 l.length l) => princ_calls r A0 c0 l W hC hl hrs hs)
 have PR := Aside0.mk hr
 obtain ⟨n, hn⟩ : ∃ n, n = l.length := ⟨_, rfl⟩
 rw [← hn] at PL PR ⊢
 clear hr hrs hs hn hl
 obtain ⟨P, hP⟩ : ∃ P, P = princOk r l := ⟨_, rfl⟩
 obtain ⟨Q, hQ⟩ : ∃ Q, Q = inR e := ⟨_, rfl⟩
 rw [← hP] at PL ⊢
 rw [← hQ]
 have PQ := Aside0.mk hQ
 clear hP hQ
 obtain ⟨G, hG⟩ : ∃ G, G = ticketG (P && Q) r l e := ⟨_, rfl⟩
 rw [← hG]
 obtain ⟨H, hH⟩ : ∃ H, H = princG P r l := ⟨_, rfl⟩
 rw [← hH] at PL
 have PG := Aside0.mk (And.intro hG hH)
 clear hG hH
 have PS := Aside0.mk (fun w2 o t kids A2 c2 e2 b2 B0 => ticket_seq w2 o t e kids A2 c2 e2 b2 B0)
 rw [← PQ.out] at PS
 obtain ⟨K, hK⟩ : ∃ K, K = princK r l := ⟨_, rfl⟩
 rcases Bool.eq_false_or_eq_true P with hP | hP <;> rcases Bool.eq_false_or_eq_true Q with hQ | hQ
 ·have hN0 : handleN e = ⟨4, hE e, []⟩ := by
   unfold handleN
   rw [← PQ.out, hQ]
   rfl
  obtain ⟨N, hN⟩ : ∃ N : S44, N = ⟨4, hE e, []⟩ := ⟨_, rfl⟩
  rw [hN0, ← hN] at PS
  have hHe : H = (48, K, 0) := by
   rw [PG.out.2, hP]
   rw [hK]; rfl
  have hGe : G = (97, [⟨48, [], [⟨48, [], K⟩, N]⟩], 0) := by
   rw [PG.out.1, hP, hQ]
   rw [hN, hK]; rfl
  have PN := Aside0.mk hN
  clear hN hN0
  rw [hHe] at PL
  rw [hGe]
  rw [hQ] at PS
  clear hHe hGe PG hK
  dsimp only at PL PS ⊢
  subst hP hQ
  go_enter Tryz.func20, Tryz.ntmps20
  go_wp2_with (first
   | (go_at_call 19; refine (PL.out _ (Kd.C_alloc (Kd.C_alloc PR.out _) _)).mono ?_; rintro e1 w1 ⟨v1, rfl, hV1, hb1⟩; obtain ⟨A2, c2, rfl⟩ := Kd.V_slice hV1; have k0 := blk_below (blk_alloc (blk_new w _) _) hb1; have k1 := blk_below (blk_new1 w _ _) hb1; have q0 := blk_lt k0; have q1 := blk_lt k1; have n0 := Nat.ne_of_lt q0; have n1 := Nat.ne_of_lt q1; have s0 := (blk_cell k0 2).trans rfl; have P1 := Aside0.mk (And.intro k0 (And.intro k1 (And.intro hV1 hb1))); clear k0 k1 hV1 hb1)
   | (go_at_call 49; refine (PS.out w1 _ 48 K A2 c2 44 0 (w.heap.size + 2) ?hB0 ?hV2 _ rfl).mono ?_; (case hB0 => (have h1 := below_size P1.out.2.2.2; simp only [World.alloc, Array.size_push] at h1; omega)); (case hV2 => exact Kd.V_mono P1.out.2.2.1 (fun k hk => by simp only [World.alloc, Array.size_push] at hk; omega)); rintro e1 w3 ⟨v3, rfl, hV3, hb3⟩; obtain ⟨A3, c3, rfl⟩ := Kd.V_slice hV3; have k1 := blk_below (blk_alloc (blk_alloc P1.out.2.1 _) _) hb3; have q3 := blk_lt k1; have n3 := Nat.ne_of_lt q3; have q4 : w.heap.size < w3.heap.size := Nat.lt_of_succ_lt q3; have n4 := Nat.ne_of_lt q4; have z0 := (blk_cell k1 0).trans rfl; have z1 := (blk_cell k1 1).trans rfl; have z2 := (blk_cell k1 2).trans rfl; have y0 := blk_frozen k1 0; have y1 := blk_frozen k1 1; have y2 := blk_frozen k1 2; have P3 := Aside0.mk (And.intro k1 (And.intro hV3 hb3)); clear s0 k1 hV3 hb3))
  have hB := below_step (below_alloc (below_alloc (below_step (below_alloc (below_alloc (Below.refl _ w) _) _) P1.out.2.2.2) _) _) P3.out.2.2
  have hV0 := P3.out.2.1
  have hk0 := blk_put (blk_put (blk_put P3.out.1 0 (.int .u8 97) rfl) 1 (.slice none 0 0) rfl) 2 (.slice (some ⟨w3.heap.size + 1, 0, none⟩) 1 1) rfl
  have hne : ∀ k, w.heap.size + 2 ≤ k → k ≠ w.heap.size + 1 := fun k hk => by omega
  have hV := Kd.V_far (p := ⟨w.heap.size + 1, 2, none⟩) (Kd.V_far (p := ⟨w.heap.size + 1, 1, none⟩) (Kd.V_far (p := ⟨w.heap.size + 1, 0, none⟩) hV0 hne (.int .u8 97)) hne (.slice none 0 0)) hne (.slice (some ⟨w3.heap.size + 1, 0, none⟩) 1 1)
  have hB2 := below_set (g := w.heap.size + 1) (j := 2) (v := (.slice (some ⟨w3.heap.size + 1, 0, none⟩) 1 1)) (below_set (g := w.heap.size + 1) (j := 1) (v := (.slice none 0 0)) (below_set (g := w.heap.size + 1) (j := 0) (v := (.int .u8 97)) hB (Nat.le_succ _)) (Nat.le_succ _)) (Nat.le_succ _)
  have hsz : (((w3.setCell ⟨w.heap.size + 1, 0, none⟩ (.int .u8 97)).setCell ⟨w.heap.size + 1, 1, none⟩ (.slice none 0 0)).setCell ⟨w.heap.size + 1, 2, none⟩ (.slice (some ⟨w3.heap.size + 1, 0, none⟩) 1 1)).heap.size = w3.heap.size := by
   simp [World.setCell]
  generalize ((w3.setCell ⟨w.heap.size + 1, 0, none⟩ (.int .u8 97)).setCell ⟨w.heap.size + 1, 1, none⟩ (.slice none 0 0)).setCell ⟨w.heap.size + 1, 2, none⟩ (.slice (some ⟨w3.heap.size + 1, 0, none⟩) 1 1) = S at hk0 hV hB2 hsz ⊢
  refine bodyPost_ret (results_ct rfl _ _ (w.heap.size + 1) 44 #[.int .u8 97, .slice none 0 0, .slice (some ⟨w3.heap.size + 1, 0, none⟩) 1 1] (0, 0) _ rfl (blk_alloc (blk_alloc hk0 _) _) Tryz.underlying44 rfl (by kernel_rfl)) rfl ?_
  have hk := blk_new1 S (.cells #[.int .u8 48, .slice none 0 0, .slice A3 2 c3] 44) (.cells #[.int .u8 48, .slice none 0 0, .slice A3 2 c3] 44)
  rw [hsz] at hk
  obtain ⟨_, h3, h4⟩ := Kd.V_at (Kd.V_alloc (Kd.V_alloc hV (.cells #[.int .u8 48, .slice none 0 0, .slice A3 2 c3] 44)) (.cells #[.int .u8 48, .slice none 0 0, .slice A3 2 c3] 44))
  have hF := k44_mkF _ _ (⟨48, [], [⟨48, [], K⟩, N]⟩ : S44) (A1 := none) (c1 := 0) (Nat.le_refl _) (Kd.F_nil _ _ _) (A2 := A3) (c2 := c3) h3 h4
  have hR := row1_F (d := k44) hk hF (show w.heap.size + 2 ≤ w3.heap.size + 1 by omega)
  have hW : Kd.V k44 44 _ w.heap.size (fun k => w.heap.size + 2 ≤ k) (.slice (some ⟨w3.heap.size + 1, 0, none⟩) 1 1) [(⟨48, [], [⟨48, [], K⟩, N]⟩ : S44)] := ⟨_, 1, rfl, Nat.le_refl 1, hR⟩
  exact ⟨_, rfl, Kd.V_mono hW (fun k hk => by omega), below_alloc (below_alloc hB2 _) _⟩
 ·have hHe : H = (48, K, 0) := by
   rw [PG.out.2, hP]
   rw [hK]; rfl
  have hGe : G = (0, [], 172) := by
   rw [PG.out.1, hP, hQ]
   rfl
  rw [hHe] at PL
  rw [hGe]
  rw [hQ] at PS
  clear hHe hGe PG hK
  dsimp only at PL PS ⊢
  subst hP hQ
  go_enter Tryz.func20, Tryz.ntmps20
  go_wp2_with (first
   | (go_at_call 19; refine (PL.out _ (Kd.C_alloc (Kd.C_alloc PR.out _) _)).mono ?_; rintro e1 w1 ⟨v1, rfl, hV1, hb1⟩; obtain ⟨A2, c2, rfl⟩ := Kd.V_slice hV1; have k0 := blk_below (blk_alloc (blk_new w _) _) hb1; have k1 := blk_below (blk_new1 w _ _) hb1; have q0 := blk_lt k0; have q1 := blk_lt k1; have n0 := Nat.ne_of_lt q0; have n1 := Nat.ne_of_lt q1; have s0 := (blk_cell k0 2).trans rfl; have P1 := Aside0.mk (And.intro k0 (And.intro k1 (And.intro hV1 hb1))); clear k0 k1 hV1 hb1)
   | (go_at_call 49; refine (PS.out w1 _ 48 K A2 c2 44 0 (w.heap.size + 2) ?hB0 ?hV2 _ rfl).mono ?_; (case hB0 => (have h1 := below_size P1.out.2.2.2; simp only [World.alloc, Array.size_push] at h1; omega)); (case hV2 => exact Kd.V_mono P1.out.2.2.1 (fun k hk => by simp only [World.alloc, Array.size_push] at hk; omega)); rintro e1 w3 ⟨v3, rfl, hV3, hb3⟩; obtain ⟨A3, c3, rfl⟩ := Kd.V_slice hV3; have k1 := blk_below (blk_alloc (blk_alloc P1.out.2.1 _) _) hb3; have q3 := blk_lt k1; have n3 := Nat.ne_of_lt q3; have q4 : w.heap.size < w3.heap.size := Nat.lt_of_succ_lt q3; have n4 := Nat.ne_of_lt q4; have z0 := (blk_cell k1 0).trans rfl; have z1 := (blk_cell k1 1).trans rfl; have z2 := (blk_cell k1 2).trans rfl; have y0 := blk_frozen k1 0; have y1 := blk_frozen k1 1; have y2 := blk_frozen k1 2; have P3 := Aside0.mk (And.intro k1 (And.intro hV3 hb3)); clear s0 k1 hV3 hb3))
  have hB := below_step (below_alloc (below_alloc (below_step (below_alloc (below_alloc (Below.refl _ w) _) _) P1.out.2.2.2) _) _) P3.out.2.2
  refine bodyPost_ret (results_ct rfl _ _ (w.heap.size + 1) 44 #[.int .u8 0, .slice none 0 0, .slice none 0 0] (0, 0) _ rfl (blk_alloc (blk_put (blk_put (blk_put P3.out.1 0 _ rfl) 1 _ rfl) 2 _ rfl) _) Tryz.underlying44 rfl (by kernel_rfl)) rfl ?_
  exact ⟨_, rfl, Kd.V_nil _ _ _ _ _, below_alloc (below_set (below_set (below_set hB (Nat.le_succ _)) (Nat.le_succ _)) (Nat.le_succ _)) _⟩
 ·have hHe : H = (0, [], 91) := by
   rw [PG.out.2, hP]
   rfl
  have hGe : G = (0, [], 172) := by
   rw [PG.out.1, hP, hQ]
   rfl
  rw [hHe] at PL
  rw [hGe]
  rw [hQ] at PS
  clear hHe hGe PG hK
  dsimp only at PL PS ⊢
  subst hP hQ
  go_enter Tryz.func20, Tryz.ntmps20
  go_wp2_with (first
   | (go_at_call 19; refine (PL.out _ (Kd.C_alloc (Kd.C_alloc PR.out _) _)).mono ?_; rintro e1 w1 ⟨v1, rfl, hV1, hb1⟩; obtain ⟨A2, c2, rfl⟩ := Kd.V_slice hV1; have k0 := blk_below (blk_alloc (blk_new w _) _) hb1; have k1 := blk_below (blk_new1 w _ _) hb1; have q0 := blk_lt k0; have q1 := blk_lt k1; have n0 := Nat.ne_of_lt q0; have n1 := Nat.ne_of_lt q1; have s0 := (blk_cell k0 2).trans rfl; have P1 := Aside0.mk (And.intro k0 (And.intro k1 (And.intro hV1 hb1))); clear k0 k1 hV1 hb1)
   | (go_at_call 49; refine (PS.out w1 _ 0 ([] : List S44) A2 c2 44 0 (w.heap.size + 2) ?hB0 ?hV2 _ rfl).mono ?_; (case hB0 => (have h1 := below_size P1.out.2.2.2; simp only [World.alloc, Array.size_push] at h1; omega)); (case hV2 => exact Kd.V_mono P1.out.2.2.1 (fun k hk => by simp only [World.alloc, Array.size_push] at hk; omega)); rintro e1 w3 ⟨v3, rfl, hV3, hb3⟩; obtain ⟨A3, c3, rfl⟩ := Kd.V_slice hV3; have k1 := blk_below (blk_alloc (blk_alloc P1.out.2.1 _) _) hb3; have q3 := blk_lt k1; have n3 := Nat.ne_of_lt q3; have q4 : w.heap.size < w3.heap.size := Nat.lt_of_succ_lt q3; have n4 := Nat.ne_of_lt q4; have z0 := (blk_cell k1 0).trans rfl; have z1 := (blk_cell k1 1).trans rfl; have z2 := (blk_cell k1 2).trans rfl; have y0 := blk_frozen k1 0; have y1 := blk_frozen k1 1; have y2 := blk_frozen k1 2; have P3 := Aside0.mk (And.intro k1 (And.intro hV3 hb3)); clear s0 k1 hV3 hb3))
  have hB := below_step (below_alloc (below_alloc (below_step (below_alloc (below_alloc (Below.refl _ w) _) _) P1.out.2.2.2) _) _) P3.out.2.2
  refine bodyPost_ret (results_ct rfl _ _ (w.heap.size + 1) 44 #[.int .u8 0, .slice none 0 0, .slice none 0 0] (0, 0) _ rfl (blk_alloc (blk_put (blk_put (blk_put P3.out.1 0 _ rfl) 1 _ rfl) 2 _ rfl) _) Tryz.underlying44 rfl (by kernel_rfl)) rfl ?_
  exact ⟨_, rfl, Kd.V_nil _ _ _ _ _, below_alloc (below_set (below_set (below_set hB (Nat.le_succ _)) (Nat.le_succ _)) (Nat.le_succ _)) _⟩
 ·have hHe : H = (0, [], 91) := by
   rw [PG.out.2, hP]
   rfl
  have hGe : G = (0, [], 172) := by
   rw [PG.out.1, hP, hQ]
   rfl
  rw [hHe] at PL
  rw [hGe]
  rw [hQ] at PS
  clear hHe hGe PG hK
  dsimp only at PL PS ⊢
  subst hP hQ
  go_enter Tryz.func20, Tryz.ntmps20
  go_wp2_with (first
   | (go_at_call 19; refine (PL.out _ (Kd.C_alloc (Kd.C_alloc PR.out _) _)).mono ?_; rintro e1 w1 ⟨v1, rfl, hV1, hb1⟩; obtain ⟨A2, c2, rfl⟩ := Kd.V_slice hV1; have k0 := blk_below (blk_alloc (blk_new w _) _) hb1; have k1 := blk_below (blk_new1 w _ _) hb1; have q0 := blk_lt k0; have q1 := blk_lt k1; have n0 := Nat.ne_of_lt q0; have n1 := Nat.ne_of_lt q1; have s0 := (blk_cell k0 2).trans rfl; have P1 := Aside0.mk (And.intro k0 (And.intro k1 (And.intro hV1 hb1))); clear k0 k1 hV1 hb1)
   | (go_at_call 49; refine (PS.out w1 _ 0 ([] : List S44) A2 c2 44 0 (w.heap.size + 2) ?hB0 ?hV2 _ rfl).mono ?_; (case hB0 => (have h1 := below_size P1.out.2.2.2; simp only [World.alloc, Array.size_push] at h1; omega)); (case hV2 => exact Kd.V_mono P1.out.2.2.1 (fun k hk => by simp only [World.alloc, Array.size_push] at hk; omega)); rintro e1 w3 ⟨v3, rfl, hV3, hb3⟩; obtain ⟨A3, c3, rfl⟩ := Kd.V_slice hV3; have k1 := blk_below (blk_alloc (blk_alloc P1.out.2.1 _) _) hb3; have q3 := blk_lt k1; have n3 := Nat.ne_of_lt q3; have q4 : w.heap.size < w3.heap.size := Nat.lt_of_succ_lt q3; have n4 := Nat.ne_of_lt q4; have z0 := (blk_cell k1 0).trans rfl; have z1 := (blk_cell k1 1).trans rfl; have z2 := (blk_cell k1 2).trans rfl; have y0 := blk_frozen k1 0; have y1 := blk_frozen k1 1; have y2 := blk_frozen k1 2; have P3 := Aside0.mk (And.intro k1 (And.intro hV3 hb3)); clear s0 k1 hV3 hb3))
  have hB := below_step (below_alloc (below_alloc (below_step (below_alloc (below_alloc (Below.refl _ w) _) _) P1.out.2.2.2) _) _) P3.out.2.2
  refine bodyPost_ret (results_ct rfl _ _ (w.heap.size + 1) 44 #[.int .u8 0, .slice none 0 0, .slice none 0 0] (0, 0) _ rfl (blk_alloc (blk_put (blk_put (blk_put P3.out.1 0 _ rfl) 1 _ rfl) 2 _ rfl) _) Tryz.underlying44 rfl (by kernel_rfl)) rfl ?_
  exact ⟨_, rfl, Kd.V_nil _ _ _ _ _, below_alloc (below_set (below_set (below_set hB (Nat.le_succ _)) (Nat.le_succ _)) (Nat.le_succ _)) _⟩
end Go.Proofs.YtncanijjnhkgbaaGreatDoor.PMsgsPut
namespace Go.Proofs.YtncanijjnhkgbaaGreatDoor.PMsgsPut
open Go.RowKit Go.Proofs.YtncanijjnhkgbaaGreatDoorW.PrintWords Go.Proofs.YtncanijjnhkgbaaGreatDoorW.PrintLast Go.Proofs.YtncanijjnhkgbaaGreatDoorW.PrintMore
theorem anyV_other (c : Int) (h0 : c ≠ 0) (h1 : c ≠ 1) (h2 : c ≠ 2) (h3 : c ≠ 3) (h4 : c ≠ 4) (h5 : c ≠ 5) : anyV c = anyV 6 := by
 unfold anyV
 rw [if_neg h0, if_neg h1, if_neg h2, if_neg h3, if_neg h4, if_neg h5]
 rfl
noncomputable def msgs_state.f (a0 : Int) (a1_0 : Int) (l1_1 : List Int) (a1_2 : ByteArray) (l1_3 : List ByteArray) (a1_4 : ByteArray) (l1_5 : List ByteArray) (a1_6 : Int) : Option (Int × List Int × (List (S44)) × Bool) := stateO a0 a1_0 l1_1 a1_2 l1_3 a1_4 l1_5 a1_6
theorem msgs_state.calls (a0 : Int) (a1_0 : Int) (A1_1 : Option Addr) (c1_1 : Nat) (l1_1 : List Int) (a1_2 : ByteArray) (A1_3 : Option Addr) (c1_3 : Nat) (l1_3 : List ByteArray) (a1_4 : ByteArray) (A1_5 : Option Addr) (c1_5 : Nat) (l1_5 : List ByteArray) (a1_6 : Int) (r1 : Int) (r2 : List Int) (r3 : List (S44)) (r4 : Bool) (w : World) (hr1_1 : Kd.C (Kd.int .u8) w A1_1 l1_1.length l1_1) (hc1_1 : l1_1.length ≤ c1_1) (hr1_3 : Kd.C Kd.string w A1_3 l1_3.length l1_3) (_ : l1_3.length ≤ c1_3) (hr1_5 : Kd.C Kd.string w A1_5 l1_5.length l1_5) (_ : l1_5.length ≤ c1_5) (h : msgs_state.f a0 a1_0 l1_1 a1_2 l1_3 a1_4 l1_5 a1_6 = some (r1, r2, r3, r4)) :
  Calls Tryz.prog 9 #[anyV a0, .agg #[.int .i64 a1_0, .slice A1_1 l1_1.length c1_1, .string a1_2, .slice A1_3 l1_3.length c1_3, .string a1_4, .slice A1_5 l1_5.length c1_5, .int .i64 a1_6]] w fun e w' => ∃ v1_ v2_ : Value, e = .returned (.tuple #[.agg #[.int .u8 r1, v1_, v2_], .bool r4]) ∧ Kd.V (Kd.int .u8) 5 w' w.heap.size (fun k_ => (w.heap.size ≤ k_)) v1_ r2 ∧ Kd.V k44 44 w' w.heap.size (fun k_ => (w.heap.size ≤ k_)) v2_ r3 ∧ Below w.heap.size w w' := by
 unfold msgs_state.f stateO at h
 by_cases h0 : a0 = 0
 ·rw [if_pos h0] at h
  subst h0
  by_cases hi : -9223372036854775808 ≤ a1_0 ∧ a1_0 ≤ 9223372036854775807
  ·rw [if_pos hi] at h
   simp only [Option.some.injEq, Prod.mk.injEq] at h
   obtain ⟨rfl, rfl, rfl, rfl⟩ := h
   exact state_int 2 (intE a1_0) [] a1_0 A1_1 c1_1 l1_1 a1_2 A1_3 c1_3 l1_3 a1_4 A1_5 c1_5 l1_5 a1_6 w (fun W _ => wire_Node_int64.calls a1_0 _ _ _ _ W hi.1 hi.2 rfl)
  ·rw [if_neg hi] at h; cases h
 rw [if_neg h0] at h
 by_cases h1 : a0 = 1
 ·rw [if_pos h1] at h
  subst h1
  simp only [Option.some.injEq, Prod.mk.injEq] at h
  obtain ⟨rfl, rfl, rfl, rfl⟩ := h
  refine state_bool 1 [if a1_0 = 1 then 255 else 0] [] a1_0 A1_1 c1_1 l1_1 a1_2 A1_3 c1_3 l1_3 a1_4 A1_5 c1_5 l1_5 a1_6 w (fun W _ => wire_Node_bool.calls (a1_0 == 1) _ _ _ _ W ?_)
  unfold wire_Node_bool.f
  by_cases hi : a1_0 = 1
  ·rw [if_pos hi, hi]
   rfl
  ·rw [if_neg hi, if_neg (by rw [beq_iff_eq]; exact hi)]
 rw [if_neg h1] at h
 by_cases h2 : a0 = 2
 ·rw [if_pos h2] at h
  subst h2
  by_cases hi : -631152000 ≤ a1_0 ∧ a1_0 ≤ 253402300799
  ·rw [if_pos hi] at h
   simp only [Option.some.injEq, Prod.mk.injEq] at h
   obtain ⟨rfl, rfl, rfl, rfl⟩ := h
   refine state_time _ _ [] a1_0 A1_1 c1_1 l1_1 a1_2 A1_3 c1_3 l1_3 a1_4 A1_5 c1_5 l1_5 a1_6 w (fun W _ => wire_Node_wireMoment.calls a1_0 _ _ _ _ W ?_)
   unfold wire_Node_wireMoment.f
   rw [if_pos hi]
  ·rw [if_neg hi] at h
   simp only [Option.some.injEq, Prod.mk.injEq] at h
   obtain ⟨rfl, rfl, rfl, rfl⟩ := h
   refine state_time_no 0 [] [] a1_0 A1_1 c1_1 l1_1 a1_2 A1_3 c1_3 l1_3 a1_4 A1_5 c1_5 l1_5 a1_6 w (fun W _ => wire_Node_wireMoment.calls a1_0 _ _ _ _ W ?_)
   unfold wire_Node_wireMoment.f
   rw [if_neg hi]
 rw [if_neg h2] at h
 by_cases h3 : a0 = 3
 ·rw [if_pos h3] at h
  subst h3
  by_cases hl : l1_1.length ≤ 1048576
  ·rw [if_pos hl] at h
   simp only [Option.some.injEq, Prod.mk.injEq] at h
   obtain ⟨rfl, rfl, rfl, rfl⟩ := h
   refine state_bytes 4 l1_1 [] a1_0 A1_1 c1_1 l1_1 a1_2 A1_3 c1_3 l1_3 a1_4 A1_5 c1_5 l1_5 a1_6 w (fun W hb => wire_Node_uint8.calls A1_1 c1_1 l1_1 _ _ _ _ W (Kd.C_below hr1_1 hb) hc1_1 ?_)
   unfold wire_Node_uint8.f
   rw [if_pos hl]
  ·rw [if_neg hl] at h; cases h
 rw [if_neg h3] at h
 by_cases h4 : a0 = 4
 ·rw [if_pos h4] at h
  subst h4
  by_cases hi : 0 ≤ a1_0 ∧ a1_0 < 281474976710656
  ·rw [if_pos hi] at h
   simp only [Option.some.injEq, Prod.mk.injEq] at h
   obtain ⟨rfl, rfl, rfl, rfl⟩ := h
   refine state_handle 4 (hE a1_0) [] a1_0 A1_1 c1_1 l1_1 a1_2 A1_3 c1_3 l1_3 a1_4 A1_5 c1_5 l1_5 a1_6 w (fun W _ => wire_Node_wireHandle.calls a1_0 _ _ _ _ W ?_)
   unfold wire_Node_wireHandle.f
   rw [if_pos hi]
  ·rw [if_neg hi] at h
   simp only [Option.some.injEq, Prod.mk.injEq] at h
   obtain ⟨rfl, rfl, rfl, rfl⟩ := h
   refine state_handle_no 4 [] [] a1_0 A1_1 c1_1 l1_1 a1_2 A1_3 c1_3 l1_3 a1_4 A1_5 c1_5 l1_5 a1_6 w (fun W _ => wire_Node_wireHandle.calls a1_0 _ _ _ _ W ?_)
   unfold wire_Node_wireHandle.f
   rw [if_neg hi]
 rw [if_neg h4] at h
 by_cases h5 : a0 = 5
 ·rw [if_pos h5] at h
  subst h5
  unfold princO at h
  by_cases hg : l1_3.length ≤ 1048576 ∧ a1_2.size ≤ 1048576 ∧ (∀ s ∈ l1_3, s.size ≤ 1048576)
  ·rw [if_pos hg] at h
   have hN := fun W (hb : Below w.heap.size w W) => princ_calls a1_2 A1_3 c1_3 l1_3 W (Kd.C_below hr1_3 hb) hg.1 hg.2.1 hg.2.2
   by_cases hp : princOk a1_2 l1_3 = true
   ·rw [if_pos hp] at h
    simp only [Option.bind_some, Option.some.injEq, Prod.mk.injEq, decide_true, Bool.true_and] at h
    obtain ⟨rfl, rfl, rfl, rfl⟩ := h
    refine state_princ 48 [] (princK a1_2 l1_3) a1_0 A1_1 c1_1 l1_1 a1_2 A1_3 c1_3 l1_3 a1_4 A1_5 c1_5 l1_5 a1_6 w (fun W hb => ?_)
    have hW := hN W hb
    rw [hp] at hW
    refine hW.mono ?_
    rintro e' w' ⟨v, rfl, hV, hB⟩
    exact ⟨_, _, rfl, Kd.V_nil _ _ _ _ _, Kd.V_mono hV (fun k hk => by omega), hB⟩
   ·rw [if_neg hp] at h
    simp only [Option.bind_some, Option.some.injEq, Prod.mk.injEq] at h
    obtain ⟨rfl, rfl, rfl, h⟩ := h
    have h : false = r4 := by rw [← h]; rfl
    subst h
    refine state_princ_no 0 [] [] 91 (by decide) a1_0 A1_1 c1_1 l1_1 a1_2 A1_3 c1_3 l1_3 a1_4 A1_5 c1_5 l1_5 a1_6 w (fun W hb => ?_)
    have hW := hN W hb
    rw [Bool.eq_false_iff.2 hp] at hW
    refine hW.mono ?_
    rintro e' w' ⟨v, rfl, hV, hB⟩
    exact ⟨_, _, rfl, Kd.V_nil _ _ _ _ _, Kd.V_mono hV (fun k hk => by omega), hB⟩
  ·rw [if_neg hg] at h; cases h
 rw [if_neg h5] at h
 rw [anyV_other a0 h0 h1 h2 h3 h4 h5]
 unfold ticketO at h
 by_cases hg : l1_5.length ≤ 1048576 ∧ a1_4.size ≤ 1048576 ∧ (∀ s ∈ l1_5, s.size ≤ 1048576)
 ·rw [if_pos hg] at h
  have hN := fun W (hb : Below w.heap.size w W) => ticket_calls a1_4 A1_5 c1_5 l1_5 a1_6 W (Kd.C_below hr1_5 hb) hg.1 hg.2.1 hg.2.2
  by_cases hp : princOk a1_4 l1_5 = true ∧ 0 ≤ a1_6 ∧ a1_6 < 281474976710656
  ·rw [if_pos hp] at h
   simp only [Option.bind_some, Option.some.injEq, Prod.mk.injEq, decide_true, Bool.true_and] at h
   obtain ⟨rfl, rfl, rfl, rfl⟩ := h
   have hq : (princOk a1_4 l1_5 && inR a1_6) = true := by
    unfold inR
    rw [hp.1, decide_eq_true hp.2.1, decide_eq_true hp.2.2]
    rfl
   refine state_ticket 97 [] _ a1_0 A1_1 c1_1 l1_1 a1_2 A1_3 c1_3 l1_3 a1_4 A1_5 c1_5 l1_5 a1_6 w (fun W hb => ?_)
   have hW := hN W hb
   rw [hq] at hW
   refine hW.mono ?_
   rintro e' w' ⟨v, rfl, hV, hB⟩
   exact ⟨_, _, rfl, Kd.V_nil _ _ _ _ _, Kd.V_mono hV (fun k hk => by omega), hB⟩
  ·rw [if_neg hp] at h
   simp only [Option.bind_some, Option.some.injEq, Prod.mk.injEq] at h
   obtain ⟨rfl, rfl, rfl, h⟩ := h
   have h : false = r4 := by rw [← h]; rfl
   subst h
   have hq : (princOk a1_4 l1_5 && inR a1_6) = false := by
    rw [Bool.eq_false_iff]
    intro hx
    unfold inR at hx
    rw [Bool.and_eq_true, Bool.and_eq_true, decide_eq_true_eq, decide_eq_true_eq] at hx
    exact hp hx
   refine state_ticket_no 0 [] [] 172 (by decide) a1_0 A1_1 c1_1 l1_1 a1_2 A1_3 c1_3 l1_3 a1_4 A1_5 c1_5 l1_5 a1_6 w (fun W hb => ?_)
   have hW := hN W hb
   rw [hq] at hW
   refine hW.mono ?_
   rintro e' w' ⟨v, rfl, hV, hB⟩
   exact ⟨_, _, rfl, Kd.V_nil _ _ _ _ _, Kd.V_mono hV (fun k hk => by omega), hB⟩
 ·rw [if_neg hg] at h; cases h
end Go.Proofs.YtncanijjnhkgbaaGreatDoor.PMsgsPut
namespace Go.Proofs.YtncanijjnhkgbaaGreatDoor.PMsgsPut
open Go.RowKit Go.Proofs.YtncanijjnhkgbaaGreatDoorW.PrintWords Go.Proofs.YtncanijjnhkgbaaGreatDoorW.PrintLast Go.Proofs.YtncanijjnhkgbaaGreatDoorW.PrintMore
theorem new_C {W : World} {n : S44} {cs : List Value} (h : k44.K (W.alloc (.cells cs.toArray 44)) n cs) : Kd.C k44 (W.alloc (.cells cs.toArray 44)) (some ⟨W.heap.size, 0, none⟩) 1 [n] := by
 refine ⟨rfl, by decide, fun _ => ⟨_, rfl, fun j p hp => ?_⟩⟩
 rcases j with _ | j
 ·simp only [List.getElem?_cons_zero, Option.some.injEq] at hp
  subst hp
  refine ⟨cs, k44.K_len h, h, fun i u hu => ?_⟩
  have ha : (⟨W.heap.size, 0, none⟩ : Addr).add (0 * k44.sz + i) = ⟨W.heap.size, i, none⟩ := by
   rw [Nat.zero_mul, Nat.zero_add]
   cases i <;> simp [Addr.add]
  rw [ha, blk_cell (blk_new W (.cells cs.toArray 44)) i]
  simpa using hu
 ·simp at hp
theorem nil_C (W : World) : (Kd.int .u8).C W none 0 ([] : List Int) := ⟨rfl, by decide, fun h => absurd h (by decide)⟩
set_option maxRecDepth 100000 in
set_option maxHeartbeats 4000000 in
theorem put_calls (a0 : Int) (A1 : Option Addr) (c1 : Nat) (l : List (S36)) (w : World) (hr : Kd.C k36 w A1 l.length l) (hc : l.length ≤ c1) (hs : ∀ v ∈ l, Small v) :
  Calls Tryz.prog 5 #[.int .i64 a0, .slice A1 l.length c1] w fun e w' => ∃ v : Value, e = .returned (.tuple #[v, .int .i64 (putR a0 l).2]) ∧ Kd.R (Kd.int .u8) 5 w' w.heap.size (fun _ => True) v (putR a0 l).1 ∧ Below w.heap.size w w' := by
 obtain ⟨t, ht⟩ : ∃ t, t = (shapeO a0).1 := ⟨_, rfl⟩
 obtain ⟨cs, hcs⟩ : ∃ cs, cs = (shapeO a0).2 := ⟨_, rfl⟩
 have hS := fun W => msgs_shapeOf.calls a0 t cs W (by unfold msgs_shapeOf.f; rw [ht, hcs])
 have hp : putR a0 l = if t = 0 then ([], 1) else if l.length = cs.length then (if allOk cs l = true then (enc (msgN t cs l), 0) else ([], 181)) else ([], 181) := by rw [ht, hcs]; rfl
 have hor := shape_or a0
 rw [← ht, ← hcs] at hor
 rw [hp]
 clear hp ht hcs
 have PR := Aside0.mk hr
 have PC := Aside0.mk hc
 have PS := Aside0.mk hs
 clear hr hc hs
 by_cases h0 : t = 0
 ·rw [if_pos h0]
  subst h0
  clear hor PR PC PS
  go_enter Tryz.func5, Tryz.ntmps5
  go_wp2_with (go_at_call 8; refine (hS _).mono ?_; rintro e w1 ⟨v, rfl, hR, hb⟩; obtain ⟨Ao, co, rfl⟩ := Kd.R_slice hR)
  go_ret2
  exact ⟨_, rfl, Kd.R_nil _ _ _ _ _, below_alloc hb _⟩
 ·rw [if_neg h0]
  have hor := hor.resolve_right h0
  have h0' : (t == 0) = false := beq_eq_false_iff_ne.2 h0
  by_cases hl : l.length = cs.length
  ·rw [if_pos hl]
   obtain ⟨n, hn⟩ : ∃ n, n = l.length := ⟨_, rfl⟩
   have PN := Aside0.mk (And.intro hn (hn.trans hl))
   have hn6 : n ≤ 6 := by rw [hn, hl]; exact hor.2
   have PO := Aside0.mk hor
   obtain ⟨Rs, hRs⟩ : ∃ Rs, Rs = (if allOk cs l = true then (enc (msgN t cs l), 0) else ([], 181) : List Int × Int) := ⟨_, rfl⟩
   rw [← hn, ← hRs]
   have PP := Aside0.mk hRs
   clear hRs
   have hlc : l.length = n := hn.symm
   have hcl : cs.length = n := by rw [← hl]; exact hlc
   clear hor hl hn h0
   go_enter Tryz.func5, Tryz.ntmps5
   go_wp2_with (go_at_call 8; refine (hS _).mono ?_; rintro e w1 ⟨v, rfl, hR, hb⟩; obtain ⟨Ao, co, rfl⟩ := Kd.R_slice hR)
   have hz1 := hb.size
   have PB := Aside0.mk hb
   have PRo := Aside0.mk (Kd.R_reads' hR).2.2
   clear hb hR hS
   go_loopg [7, 25] n (fun g v7 v25 wx => ∃ i : Nat, i + g = n ∧ v25 = .int .i64 i ∧ (∀ j (h1 : j < i) (h2 : j < cs.length) (h3 : j < l.length), partOk cs[j] l[j] = true) ∧ Kd.N k44 44 wx w1.heap.size (fun k => w1.heap.size < k) v7 (List.zipWith partN (cs.take i) (l.take i)) ∧ wx.heap[w1.heap.size]? = some (.cells #[.int .u8 t, .slice Ao n co] 40) ∧ Below w1.heap.size w1 wx)
   case atStart => exact ⟨0, by omega, rfl, fun j h => absurd h (Nat.not_lt_zero _), by simpa using Kd.N_nil _ _ _ _ _, blk_new _ _, below_alloc (Below.refl _ _) _⟩
   case round =>
    obtain ⟨i, hig, rfl, hok, hN, hk, hbw⟩ := hrel
    have hzl : (List.zipWith partN (cs.take i) (l.take i)).length = i := by rw [List.length_zipWith, List.length_take, List.length_take]; omega
    obtain ⟨Ak, ck, hkv⟩ := Kd.N_slice hN
    rw [hzl] at hkv
    subst hkv
    cases gk with
    | zero =>
     obtain rfl : i = n := by omega
     have hall : allOk cs l = true := by
      unfold allOk
      rw [List.all_eq_true]
      intro p hp
      obtain ⟨j, hj, rfl⟩ := List.mem_iff_getElem.1 hp
      rw [List.length_zip] at hj
      rw [List.getElem_zip]
      exact hok j (by omega) (by omega) (by omega)
     have hR := PP.out
     rw [if_pos hall] at hR
     subst hR
     rw [List.take_of_length_le (by omega), List.take_of_length_le (by omega)] at hN
     have hF := print_some (msg_fine t cs l PO.out.1 PO.out.2 (by omega) PS.out hall) (by decide)
     have hz2 : (List.zipWith partN cs l).length = i := by rw [List.length_zipWith]; omega
     have k0 := (blk_cell hk 0).trans rfl
     have PK := Aside0.mk (And.intro hN (And.intro hk (And.intro hbw (And.intro hF hz2))))
     have hgv := blk_lt hk
     clear hok hzl hall hN hk hbw hF hz2 hig
     go_wp2_with (fail)
     have hr := (Kd.N_reads' PK.out.1).2.2
     have hcl := (Kd.N_reads' PK.out.1).2.1
     have hb6 := below_alloc (Below.refl wr.heap.size wr) (.cells #[.int .u8 48, .slice none 0 0, .slice Ak i ck] 44)
     have hK := k44_mk (wr.alloc (.cells #[.int .u8 48, .slice none 0 0, .slice Ak i ck] 44)) ⟨48, [], List.zipWith partN cs l⟩ (A1 := none) (c1 := 0) (Nat.le_refl _) (nil_C _) (A2 := Ak) (c2 := ck) (by show (List.zipWith partN cs l).length ≤ ck; rw [PK.out.2.2.2.2]; exact hcl) (Kd.C_below hr hb6)
     have hK2 : k44.K (wr.alloc (.cells #[.int .u8 48, .slice none 0 0, .slice Ak i ck] 44)) ⟨48, [], List.zipWith partN cs l⟩ [.int .u8 48, .slice none 0 0, .slice Ak i ck] := by
      have e : (⟨48, [], List.zipWith partN cs l⟩ : S44).f2.length = i := PK.out.2.2.2.2
      rw [e] at hK
      exact hK
     refine (nodes_Print.calls t none 0 [] (some ⟨wr.heap.size, 0, none⟩) 1 [⟨48, [], List.zipWith partN cs l⟩] _ _ _ (nil_C _) (Nat.le_refl _) (new_C hK2) (Nat.le_refl _) PK.out.2.2.2.1).mono ?_
     rintro e w7 ⟨v, rfl, hR7, hb7⟩
     have P7 := Aside0.mk (And.intro hR7 hb7)
     clear hr hb6 hK hK2 hR7 hb7 hcl
     go_wp2
     go_ret2
     have hB7 := (PB.out.trans (PK.out.2.2.1.mono hz1)).trans ((below_step (below_alloc (Below.refl wr.heap.size wr) (.cells #[.int .u8 48, .slice none 0 0, .slice Ak i ck] 44)) P7.out.2).mono (Nat.le_trans hz1 (Nat.le_of_lt hgv)))
     exact ⟨_, rfl, Kd.R_lower P7.out.1 (Nat.le_trans (Nat.le_trans hz1 (Nat.le_of_lt hgv)) (below_alloc (Below.refl wr.heap.size wr) (.cells #[.int .u8 48, .slice none 0 0, .slice Ak i ck] 44)).size), hB7⟩
    | succ g =>
     have hi1 : i < l.length := by omega
     have hi2 : i < cs.length := by omega
     obtain ⟨x, hx⟩ : ∃ x, x = l[i] := ⟨_, rfl⟩
     obtain ⟨c, hcx⟩ : ∃ c, c = cs[i] := ⟨_, rfl⟩
     have hsx : Small x := by rw [hx]; exact PS.out _ (List.getElem_mem hi1)
     have hst := state_some c x hsx
     obtain ⟨q, hq⟩ : ∃ q, q = partQ c x := ⟨_, rfl⟩
     rw [← hq] at hst
     obtain ⟨T, bd, ks, okx⟩ := q
     obtain ⟨ad, B1, d1, B3, d3, B5, d5, rfl, e0, e1, e2, e3, e4, e5, e6, m1, n1, m3, n3, m5, n5⟩ := at_T36 (Kd.C_below PR.out (PB.out.trans (hbw.mono hz1))) (i : Int) (by omega) (by omega)
     rw [rd_part l i hi1, ← hx] at e0 e1 e2 e3 e4 e5 e6 m1 n1 m3 n3 m5 n5
     rw [Int.toNat_natCast] at e0 e1 e2 e3 e4 e5 e6
     obtain ⟨ao, rfl, eo⟩ := Kd.at_any (Kd.C_below PRo.out hbw) (i : Int) (by omega) (by omega)
     rw [rd_int cs i hi2, ← hcx, Int.toNat_natCast] at eo
     have F := Aside0.mk (fun (W : World) (hb : Below wr.heap.size wr W) => msgs_state.calls c x.f0 B1 d1 x.f1 x.f2.f0 B3 d3 x.f2.f1 x.f3.f0.f0 B5 d5 x.f3.f0.f1 x.f3.f1 T bd ks okx W (Kd.C_below n1 hb) m1 (Kd.C_below n3 hb) m3 (Kd.C_below n5 hb) m5 hst)
     have PX := Aside0.mk (And.intro hx (And.intro hcx (And.intro hq hst)))
     have PK := Aside0.mk (And.intro hok (And.intro hN (And.intro hk hbw)))
     have PZ := Aside0.mk hzl
     have PM := Aside0.mk (And.intro e0 (And.intro e1 (And.intro e2 (And.intro e3 (And.intro e4 (And.intro e5 e6))))))
     have hgv := blk_lt hk
     have k0 := (blk_cell hk 0).trans rfl
     have k1 := (blk_cell hk 1).trans rfl
     have hin : i < n := by omega
     clear hx hcx hq hst hok hN hk hbw m1 n1 m3 n3 m5 n5 hsx hzl
     go_wp2_with (fail)
     have hks := blk_alloc PK.out.2.2.1 (.cells #[.int .i64 x.f0, .slice B1 x.f1.length d1, .string x.f2.f0, .slice B3 x.f2.f1.length d3, .string x.f3.f0.f0, .slice B5 x.f3.f0.f1.length d5, .int .i64 x.f3.f1] 36)
     have hkv := blk_new wr (.cells #[.int .i64 x.f0, .slice B1 x.f1.length d1, .string x.f2.f0, .slice B3 x.f2.f1.length d3, .string x.f3.f0.f0, .slice B5 x.f3.f0.f1.length d5, .int .i64 x.f3.f1] 36)
     have hbV := below_alloc (Below.refl wr.heap.size wr) (.cells #[.int .i64 x.f0, .slice B1 x.f1.length d1, .string x.f2.f0, .slice B3 x.f2.f1.length d3, .string x.f3.f0.f0, .slice B5 x.f3.f0.f1.length d5, .int .i64 x.f3.f1] 36)
     have heo := (hbV.cell (World.block_lt_of_cell? _ _ eo)).trans eo
     generalize (wr.alloc (.cells #[.int .i64 x.f0, .slice B1 x.f1.length d1, .string x.f2.f0, .slice B3 x.f2.f1.length d3, .string x.f3.f0.f0, .slice B5 x.f3.f0.f1.length d5, .int .i64 x.f3.f1] 36)) = W at hks hkv hbV heo ⊢
     clear e0 e1 e2 e3 e4 e5 e6 eo k0 k1
     have q1 := (blk_cell hks 1).trans rfl
     have p0 := (blk_cell hkv 0).trans rfl
     have p1 := (blk_cell hkv 1).trans rfl
     have p2 := (blk_cell hkv 2).trans rfl
     have p3 := (blk_cell hkv 3).trans rfl
     have p4 := (blk_cell hkv 4).trans rfl
     have p5 := (blk_cell hkv 5).trans rfl
     have p6 := (blk_cell hkv 6).trans rfl
     have PG := Aside0.mk (And.intro hks (And.intro hkv (And.intro heo hbV)))
     have hne : wr.heap.size ≠ w1.heap.size := by omega
     have hne2 := hne.symm
     have hlv := blk_lt hkv
     have hls := blk_lt hks
     have hlo := World.block_lt_of_cell? _ _ heo
     have g1 : wr.heap.size ≠ W.heap.size := by omega
     have g2 : w1.heap.size ≠ W.heap.size := by omega
     have g3 : (ao.add i).block ≠ W.heap.size := by omega
     have g4 := g1.symm
     have g5 := g2.symm
     have g6 := g3.symm
     have Hlv := Aside0.mk hlv
     clear hks hkv hbV hlv hls hlo
     go_region_held3 (fun w' => w'.cell? ⟨w1.heap.size, 1, none⟩ = some (.slice (some ao) n co) ∧ w'.cell? ⟨wr.heap.size, 0, none⟩ = some (.int .i64 x.f0) ∧ w'.cell? ⟨wr.heap.size, 1, none⟩ = some (.slice B1 x.f1.length d1) ∧ w'.cell? ⟨wr.heap.size, 2, none⟩ = some (.string x.f2.f0) ∧ w'.cell? ⟨wr.heap.size, 3, none⟩ = some (.slice B3 x.f2.f1.length d3) ∧ w'.cell? ⟨wr.heap.size, 4, none⟩ = some (.string x.f3.f0.f0) ∧ w'.cell? ⟨wr.heap.size, 5, none⟩ = some (.slice B5 x.f3.f0.f1.length d5) ∧ w'.cell? ⟨wr.heap.size, 6, none⟩ = some (.int .i64 x.f3.f1) ∧ w'.cell? (ao.add i) = some (anyV c)) (go_keep) (first | (go_at_call 9; (with_reducible refine (F.out _ (below_drew1 (below_alloc PG.out.2.2.2 (.cells #[.int .u8 0, .slice none 0 0, .slice none 0 0] 44)))).mono ?_); rintro e w2 ⟨v1, v2, rfl, hV1, hV2, hb⟩; obtain ⟨N1, n1, rfl⟩ := Kd.V_slice hV1; obtain ⟨N2, n2, rfl⟩ := Kd.V_slice hV2; have hbW : Below W.heap.size W w2 := below_step (below_drew1 (below_alloc (Below.refl W.heap.size W) (.cells #[.int .u8 0, .slice none 0 0, .slice none 0 0] 44))) hb; have kn := blk_below (blk_drew (blk_new W (.cells #[.int .u8 0, .slice none 0 0, .slice none 0 0] 44))) hb; have zn0 := (blk_cell kn 0).trans rfl; have zn1 := (blk_cell kn 1).trans rfl; have zn2 := (blk_cell kn 2).trans rfl; have yn0 := blk_frozen kn 0; have yn1 := blk_frozen kn 1; have yn2 := blk_frozen kn 2; have q1 := (blk_cell (blk_below PG.out.1 hbW) 1).trans rfl; have p0 := (blk_cell (blk_below PG.out.2.1 hbW) 0).trans rfl; have p1 := (blk_cell (blk_below PG.out.2.1 hbW) 1).trans rfl; have p2 := (blk_cell (blk_below PG.out.2.1 hbW) 2).trans rfl; have p3 := (blk_cell (blk_below PG.out.2.1 hbW) 3).trans rfl; have p4 := (blk_cell (blk_below PG.out.2.1 hbW) 4).trans rfl; have p5 := (blk_cell (blk_below PG.out.2.1 hbW) 5).trans rfl; have p6 := (blk_cell (blk_below PG.out.2.1 hbW) 6).trans rfl; have qo := (hbW.cell (World.block_lt_of_cell? _ _ PG.out.2.2.1)).trans PG.out.2.2.1; have PV := Aside0.mk (And.intro hbW (And.intro hV1 (And.intro hV2 kn))); clear hb hbW hV1 hV2 kn) | (go_at_call 9; (with_reducible refine (F.out _ (below_drew1 PG.out.2.2.2)).mono ?_); rintro e w2 ⟨v1, v2, rfl, hV1, hV2, hb⟩; obtain ⟨N1, n1, rfl⟩ := Kd.V_slice hV1; obtain ⟨N2, n2, rfl⟩ := Kd.V_slice hV2; have hbW : Below W.heap.size W w2 := below_step (below_drew1 (Below.refl W.heap.size W)) hb; have q1 := (blk_cell (blk_below PG.out.1 hbW) 1).trans rfl; have p0 := (blk_cell (blk_below PG.out.2.1 hbW) 0).trans rfl; have p1 := (blk_cell (blk_below PG.out.2.1 hbW) 1).trans rfl; have p2 := (blk_cell (blk_below PG.out.2.1 hbW) 2).trans rfl; have p3 := (blk_cell (blk_below PG.out.2.1 hbW) 3).trans rfl; have p4 := (blk_cell (blk_below PG.out.2.1 hbW) 4).trans rfl; have p5 := (blk_cell (blk_below PG.out.2.1 hbW) 5).trans rfl; have p6 := (blk_cell (blk_below PG.out.2.1 hbW) 6).trans rfl; have qo := (hbW.cell (World.block_lt_of_cell? _ _ PG.out.2.2.1)).trans PG.out.2.2.1; have hw2 := hbW.size; have PV := Aside0.mk (And.intro hbW (And.intro hV1 hV2)); clear hb hbW hV1 hV2))
     all_goals
      first | (have U1 := put3 PV.out.2.2.2 (.int .u8 T) (.slice N1 bd.length n1) (.slice N2 ks.length n2); have U2 := far3 (g := W.heap.size) (Kd.V_mono PV.out.2.1 (ok' := fun k => W.heap.size < k) (fun _ hk => node_lt hk)) (fun k hk => Nat.ne_of_gt hk) (.int .u8 T) (.slice N1 bd.length n1) (.slice N2 ks.length n2); have U3 := far3 (g := W.heap.size) (Kd.V_mono PV.out.2.2.1 (ok' := fun k => W.heap.size < k) (fun _ hk => node_lt hk)) (fun k hk => Nat.ne_of_gt hk) (.int .u8 T) (.slice N1 bd.length n1) (.slice N2 ks.length n2); have U4 := set3 PV.out.1 (Nat.le_refl W.heap.size) (.int .u8 T) (.slice N1 bd.length n1) (.slice N2 ks.length n2); generalize (((w2.setCell ⟨W.heap.size, 0, none⟩ (.int .u8 T)).setCell ⟨W.heap.size, 1, none⟩ (.slice N1 bd.length n1)).setCell ⟨W.heap.size, 2, none⟩ (.slice N2 ks.length n2)) = W5 at U1 U2 U3 U4 ⊢; replace U2 := Kd.V_mono U2 (ok' := fun k => W.heap.size ≤ k) (fun _ hk => Nat.le_of_lt hk); replace U3 := Kd.V_mono U3 (ok' := fun k => W.heap.size ≤ k) (fun _ hk => Nat.le_of_lt hk)) | (have U1 := blk_new w2 (.cells #[.int .u8 T, .slice N1 bd.length n1, .slice N2 ks.length n2] 44); have U2 := Kd.V_alloc PV.out.2.1 (.cells #[.int .u8 T, .slice N1 bd.length n1, .slice N2 ks.length n2] 44); have U3 := Kd.V_alloc PV.out.2.2 (.cells #[.int .u8 T, .slice N1 bd.length n1, .slice N2 ks.length n2] 44); have U4 := below_alloc PV.out.1 (.cells #[.int .u8 T, .slice N1 bd.length n1, .slice N2 ks.length n2] 44); generalize (w2.alloc (.cells #[.int .u8 T, .slice N1 bd.length n1, .slice N2 ks.length n2] 44)) = W5 at U1 U2 U3 U4 ⊢)
     all_goals
      have z0 := (blk_cell U1 0).trans rfl
      have z1 := (blk_cell U1 1).trans rfl
      have z2 := (blk_cell U1 2).trans rfl
      have PU := Aside0.mk (And.intro U2 (And.intro U3 U4))
      clear U1 U2 U3 U4
      cases okx with
      | false =>
       have hno : allOk cs l = false := by
        rw [Bool.eq_false_iff]
        intro h
        have h2 := allOk_at h i hi2 hi1
        rw [← PX.out.1, ← PX.out.2.1] at h2
        unfold partOk at h2
        rw [← PX.out.2.2.1] at h2
        cases h2
       have hR := PP.out
       rw [hno, if_neg (by decide)] at hR
       subst hR
       clear hno
       go_wp2
       go_ret2
       exact ⟨_, rfl, Kd.R_nil _ _ _ _ _, (PB.out.trans (PK.out.2.2.2.mono hz1)).trans ((PG.out.2.2.2.trans (PU.out.2.2.mono (Nat.le_of_lt Hlv.out))).mono (Nat.le_trans hz1 (Nat.le_of_lt hgv)))⟩
      | true =>
       go_wp2_with ((with_reducible refine gate_builtin (b := .append) rfl ?_); at_builtin; (refine Kd.N_append k44 (w0 := w1) (W := W5) w1.heap.size rfl _ _ 42 44 (.agg #[.int .u8 0, .slice none 0 0, .slice none 0 0]) 56 rfl Tryz.underlying42 info44 rfl (by decide) (by decide) (.slice Ak i ck) (List.zipWith partN (cs.take i) (l.take i)) ⟨T, bd, ks⟩ [.int .u8 T, .slice N1 bd.length n1, .slice N2 ks.length n2] (fun k => w1.heap.size < k) (fun k => W.heap.size ≤ k) rfl ?hx ?hp ?hokp ?hfr ?hO ?hB ?hba ?hle ?_); (case hx => rfl); (case hp => (have a1 := Kd.V_at PU.out.1; have a2 := Kd.V_at PU.out.2.1; exact k44_mkF W5 _ ⟨T, bd, ks⟩ a1.2.1 a1.2.2 a2.2.1 a2.2.2)); (case hokp => exact (fun k hk => ⟨Nat.lt_of_lt_of_le (Nat.lt_trans hgv Hlv.out) hk, fun he => absurd (Kd.N_lt PK.out.2.1 k he.symm) (Nat.not_lt.2 (Nat.le_trans (Nat.le_of_lt Hlv.out) hk))⟩)); (case hfr => exact (fun k hk => Nat.lt_of_lt_of_le (Nat.lt_trans hgv Hlv.out) (Nat.le_trans PU.out.2.2.size hk))); (case hO => exact Kd.N_below (Kd.N_below PK.out.2.1 PG.out.2.2.2) PU.out.2.2); (case hB => exact PK.out.2.2.2.trans ((PG.out.2.2.2.trans (PU.out.2.2.mono (Nat.le_of_lt Hlv.out))).mono (Nat.le_of_lt hgv))); (case hba => exact (PK.out.2.2.2.trans ((PG.out.2.2.2.trans (PU.out.2.2.mono (Nat.le_of_lt Hlv.out))).mono (Nat.le_of_lt hgv))).size); (case hle => (rw [PZ.out]; omega)); intro v6 w6 hN6 hb6 hg6 hat6; have PN6 := Aside0.mk (And.intro hN6 (And.intro hb6 hg6)); clear hN6 hb6 hg6 hat6)
       go_roundg g
       case measure => omega
       case rel =>
        have ht : List.zipWith partN (cs.take (i + 1)) (l.take (i + 1)) = List.zipWith partN (cs.take i) (l.take i) ++ [⟨T, bd, ks⟩] := by
         rw [List.take_succ_eq_append_getElem hi2, List.take_succ_eq_append_getElem hi1, List.zipWith_append (by rw [List.length_take, List.length_take]; omega), ← PX.out.1, ← PX.out.2.1]
         unfold partN
         rw [List.zipWith_cons_cons, ← PX.out.2.2.1]
         rfl
        refine ⟨i + 1, by omega, by go_num, fun j h1 h2 h3 => ?_, by rw [ht]; exact PN6.out.1, blk_grown (blk_below PG.out.1 PU.out.2.2) PN6.out.2.2 (fun he => ?_), PN6.out.2.1⟩
        ·by_cases hj : j = i
         ·subst hj
          rw [← PX.out.1, ← PX.out.2.1]
          unfold partOk
          rw [← PX.out.2.2.1]
         ·exact PK.out.1 j (by omega) h2 h3
        ·have := PK.out.2.1.1 _ he.symm
         omega
  ·rw [if_neg hl]
   have hl' : ((l.length : Int) != (cs.length : Int)) = true := bne_iff_ne.2 (by omega)
   have hl'' : (l.length != cs.length) = true := bne_iff_ne.2 hl
   clear hor PR PC PS h0 hl
   go_enter Tryz.func5, Tryz.ntmps5
   go_wp2_with (go_at_call 8; refine (hS _).mono ?_; rintro e w1 ⟨v, rfl, hR, hb⟩; obtain ⟨Ao, co, rfl⟩ := Kd.R_slice hR)
   go_ret2
   exact ⟨_, rfl, Kd.R_nil _ _ _ _ _, below_alloc hb _⟩
end Go.Proofs.YtncanijjnhkgbaaGreatDoor.PMsgsPut
namespace Go.Proofs.YtncanijjnhkgbaaGreatDoor.PMsgsPut
open Go.RowKit Go.Proofs.YtncanijjnhkgbaaGreatDoorW.PrintWords Go.Proofs.YtncanijjnhkgbaaGreatDoorW.PrintLast Go.Proofs.YtncanijjnhkgbaaGreatDoorW.PrintMore
theorem wp_of_if {c : Prop} [Decidable c] {A B : Prop} (hc : c) (h : if c then A else B) : A := by rwa [if_pos hc] at h
theorem seq_one {w wr w2 w3 : World} {xs : List (S44)} {Ak : Option Addr} {i ck : Nat} (hN : Kd.N k44 44 wr w.heap.size (fun k => w.heap.size ≤ k) (.slice Ak i ck) xs) (hi : xs.length = i) (hb : Below wr.heap.size wr w2)
  (hb3 : Below (w2.alloc (.cells #[.int .u8 48, .slice none 0 0, .slice Ak i ck] 44)).heap.size (w2.alloc (.cells #[.int .u8 48, .slice none 0 0, .slice Ak i ck] 44)) w3) : Kd.C k44 w3 (some ⟨w2.heap.size, 0, none⟩) 1 [⟨48, [], xs⟩] := by
 subst hi
 have h := lit_N k44 (e := 44) (W := w2) (ok := fun _ => True) (okp := fun k => w.heap.size ≤ k) (xs := [⟨48, [], xs⟩]) (inner := [.int .u8 48, .slice none 0 0, .slice Ak xs.length ck]) (Reps.c3 (node_FK (n := ⟨48, [], xs⟩) (e := 5) (b := 0) (Kd.V_nil _ _ _ _ _) (Kd.V_below (Kd.N_V (base' := 0) hN) hb)) (Reps.none _ _)) (fun _ _ => trivial) trivial (by simp)
 exact Kd.C_below (Kd.N_reads' h).2.2 hb3
set_option maxRecDepth 100000 in
set_option maxHeartbeats 4000000 in
theorem refputs_calls (a0 : Int) (A1 : Option Addr) (c1 : Nat) (l : List (S36)) (w : World) (hr : Kd.C k36 w A1 l.length l) (hc : l.length ≤ c1) (hs : ∀ v ∈ l, Small v) :
  Calls Tryz.prog 6 #[.int .i64 a0, .slice A1 l.length c1] w fun e w' => ∃ v : Value, e = .returned (.tuple #[v, .int .i64 (putR a0 l).2]) ∧ Kd.R (Kd.int .u8) 5 w' w.heap.size (fun _ => True) v (putR a0 l).1 ∧ Below w.heap.size w w' := by
 obtain ⟨t, ht⟩ : ∃ t, t = (shapeO a0).1 := ⟨_, rfl⟩
 obtain ⟨cs, hcs⟩ : ∃ cs, cs = (shapeO a0).2 := ⟨_, rfl⟩
 obtain ⟨fs, hfs⟩ : ∃ fs, fs = formS a0 := ⟨_, rfl⟩
 have hfz : fs.size = cs.length := by rw [hfs, hcs]; exact formS_size a0
 have hfa : ∀ (i : Nat) (h : i < cs.length), code (bt fs (i : Int)) = cs[i] := by rw [hfs, hcs]; exact formS_at a0
 have hS := fun W => warderref18_form.calls a0 t fs W (by rw [ht, hfs]; exact (form_some a0).1)
 have hp : putR a0 l = if t = 0 then ([], 1) else if l.length = cs.length then (if allOk cs l = true then (enc (msgN t cs l), 0) else ([], 181)) else ([], 181) := by rw [ht, hcs]; rfl
 have hor := shape_or a0
 rw [← ht, ← hcs] at hor
 rw [hp]
 clear hp ht hcs hfs
 have PR := Aside0.mk hr
 have PC := Aside0.mk hc
 have PS := Aside0.mk hs
 have FS := Aside0.mk hS
 have PA := Aside0.mk hfa
 clear hr hc hs hS hfa
 by_cases h0 : t = 0
 ·rw [if_pos h0]
  subst h0
  clear hor PR PC PS PA hfz
  go_enter Tryz.func6, Tryz.ntmps6
  go_wp2_with (go_at_call 11; (with_reducible refine (FS.out _).mono ?_); rintro e w1 ⟨rfl, ⟨nd, rfl⟩⟩)
  go_ret2
  exact ⟨_, rfl, Kd.R_nil _ _ _ _ _, pw_below_drewN (Below.refl _ _) _⟩
 ·rw [if_neg h0]
  have hor := hor.resolve_right h0
  have h0' : (t == 0) = false := beq_eq_false_iff_ne.2 h0
  by_cases hl : l.length = cs.length
  ·rw [if_pos hl]
   obtain ⟨n, hn⟩ : ∃ n, n = l.length := ⟨_, rfl⟩
   have PN := Aside0.mk (And.intro hn (hn.trans hl))
   have hn6 : n ≤ 6 := by rw [hn, hl]; exact hor.2
   have PO := Aside0.mk hor
   obtain ⟨Rs, hRs⟩ : ∃ Rs, Rs = (if allOk cs l = true then (enc (msgN t cs l), 0) else ([], 181) : List Int × Int) := ⟨_, rfl⟩
   rw [← hn, ← hRs]
   have PP := Aside0.mk hRs
   clear hRs
   have hlc : l.length = n := hn.symm
   have hcl : cs.length = n := by rw [← hl]; exact hlc
   have hfn : fs.size = n := by rw [hfz, hcl]
   clear hor hl hn h0 hfz
   go_enter Tryz.func6, Tryz.ntmps6
   go_wp2_with (go_at_call 11; (with_reducible refine (FS.out _).mono ?_); rintro e w1 ⟨rfl, ⟨nd, rfl⟩⟩)
   have PB0 := Aside0.mk (pw_below_drewN (Below.refl w.heap.size w) nd)
   go_loopg [8, 9] n (fun g v8 v9 wx => ∃ i : Nat, i + g = n ∧ v9 = .int .i64 i ∧ (∀ j (h1 : j < i) (h2 : j < cs.length) (h3 : j < l.length), partOk cs[j] l[j] = true) ∧ Kd.N k44 44 wx w.heap.size (fun k => w.heap.size ≤ k) v8 (List.zipWith partN (cs.take i) (l.take i)) ∧ Below w.heap.size w wx)
   case atStart => exact ⟨0, by omega, rfl, fun j h => absurd h (Nat.not_lt_zero _), by simpa using Kd.N_nil _ _ _ _ _, PB0.out⟩
   case round =>
    clear PB0
    obtain ⟨i, hig, rfl, hok, hN, hbw⟩ := hrel
    have hzl : (List.zipWith partN (cs.take i) (l.take i)).length = i := by rw [List.length_zipWith, List.length_take, List.length_take]; omega
    obtain ⟨Ak, ck, hkv⟩ := Kd.N_slice hN
    rw [hzl] at hkv
    subst hkv
    cases gk with
    | zero =>
     obtain rfl : i = n := by omega
     have hall : allOk cs l = true := by
      unfold allOk
      rw [List.all_eq_true]
      intro p hp
      obtain ⟨j, hj, rfl⟩ := List.mem_iff_getElem.1 hp
      rw [List.length_zip] at hj
      rw [List.getElem_zip]
      exact hok j (by omega) (by omega) (by omega)
     have hR := PP.out
     rw [if_pos hall] at hR
     subst hR
     rw [List.take_of_length_le (by omega), List.take_of_length_le (by omega)] at hN hzl
     have hF := msg_fine t cs l PO.out.1 PO.out.2 (by omega) PS.out hall
     have PK := Aside0.mk (And.intro hN (And.intro hbw (And.intro hF hzl)))
     clear hok hzl hall hN hbw hF hig
     go_wp2_with (first | (go_at_call 15; (with_reducible refine (rSeq_calls 48 Ak i ck _).mono ?_); rintro e w2 ⟨rfl, hb⟩; have P2 := Aside0.mk hb; clear hb) | (go_at_call 15; (with_reducible refine (rSeq_calls t (some ⟨w2.heap.size, 0, none⟩) 1 1 _).mono ?_); rintro e w3 ⟨rfl, hb⟩; have P3 := Aside0.mk (And.intro (seq_one PK.out.1 PK.out.2.2.2 P2.out hb) (And.intro hb (below_step (below_alloc (below_step PK.out.2.1 P2.out) _) hb))); clear hb) | (go_at_call 14; refine (rPrint_calls (h := 6) (msgN t cs l) PK.out.2.2.1 (by decide) none 0 (some ⟨w2.heap.size, 0, none⟩) 1 _ (nil_C _) (Nat.le_refl _) P3.out.1 (Nat.le_refl _)).mono ?_; rintro e w4 ⟨v, rfl, hR, hb⟩; have P4 := Aside0.mk (And.intro hR (below_step P3.out.2.2 hb)); clear hR hb))
     go_ret2
     exact ⟨_, rfl, Kd.R_lower P4.out.1 P3.out.2.2.size, P4.out.2⟩
    | succ g =>
     have hi1 : i < l.length := by omega
     have hi2 : i < cs.length := by omega
     obtain ⟨x, hx⟩ : ∃ x, x = l[i] := ⟨_, rfl⟩
     have hif : i < fs.size := by omega
     obtain ⟨c, hcx⟩ : ∃ c : Int, c = ((fs[i]'hif).toNat : Int) := ⟨_, rfl⟩
     have hcb : bt fs (i : Int) = c := by rw [hcx]; exact (bt_at fs (i : Int) (by simpa using hif)).symm
     have hcc : cs[i] = code c := by rw [← hcb]; exact (PA.out i hi2).symm
     have hsx : Small x := by rw [hx]; exact PS.out _ (List.getElem_mem hi1)
     obtain ⟨ad, B1, d1, B3, d3, B5, d5, rfl, e0, e1, e2, e3, e4, e5, e6, m1, n1, m3, n3, m5, n5⟩ := at_T36 PR.out (i : Int) (by omega) (by omega)
     rw [rd_part l i hi1, ← hx] at e0 e1 e2 e3 e4 e5 e6 m1 n1 m3 n3 m5 n5
     rw [Int.toNat_natCast] at e0 e1 e2 e3 e4 e5 e6
     have hV : ValC w x B1 d1 B3 d3 B5 d5 := ⟨m1, n1, m3, n3, m5, n5⟩
     have F1 := Aside0.mk (fun (W : World) (hb : Below w.heap.size w W) => right_calls c x B1 d1 B3 d3 B5 d5 W (hV.below hb) hsx)
     have F2 := Aside0.mk (fun (ho : partOk (code c) x = true) (W : World) (hb : Below w.heap.size w W) => rNode_calls c x B1 d1 B3 d3 B5 d5 W (hV.below hb) hsx ho)
     unfold valV at F1 F2
     have PX := Aside0.mk (And.intro hx hcc)
     have PK := Aside0.mk (And.intro hok (And.intro hN hbw))
     have PZ := Aside0.mk hzl
     have PM := Aside0.mk (And.intro e0 (And.intro e1 (And.intro e2 (And.intro e3 (And.intro e4 (And.intro e5 e6))))))
     have hin : i < n := by omega
     have e0 := (hbw.cell (World.block_lt_of_cell? _ _ PM.out.1)).trans PM.out.1
     have e1 := (hbw.cell (World.block_lt_of_cell? _ _ PM.out.2.1)).trans PM.out.2.1
     have e2 := (hbw.cell (World.block_lt_of_cell? _ _ PM.out.2.2.1)).trans PM.out.2.2.1
     have e3 := (hbw.cell (World.block_lt_of_cell? _ _ PM.out.2.2.2.1)).trans PM.out.2.2.2.1
     have e4 := (hbw.cell (World.block_lt_of_cell? _ _ PM.out.2.2.2.2.1)).trans PM.out.2.2.2.2.1
     have e5 := (hbw.cell (World.block_lt_of_cell? _ _ PM.out.2.2.2.2.2.1)).trans PM.out.2.2.2.2.2.1
     have e6 := (hbw.cell (World.block_lt_of_cell? _ _ PM.out.2.2.2.2.2.2)).trans PM.out.2.2.2.2.2.2
     obtain ⟨okx, hokx⟩ : ∃ b, b = partOk (code c) x := ⟨_, rfl⟩
     rw [← hokx] at F1 F2
     have PY := Aside0.mk hokx
     subst hcx
     clear hx hcb hcc hok hN hbw m1 n1 m3 n3 m5 n5 hsx hzl hV hokx
     go_wp2_with (fail)
     go_region_held3 (fun w' => w'.cell? (ad.add (i * 7)) = some (.int .i64 x.f0) ∧ w'.cell? ⟨(ad.add (i * 7)).block, (ad.add (i * 7)).off + 1, none⟩ = some (.slice B1 x.f1.length d1) ∧ w'.cell? ⟨(ad.add (i * 7)).block, (ad.add (i * 7)).off + 2, none⟩ = some (.string x.f2.f0) ∧ w'.cell? ⟨(ad.add (i * 7)).block, (ad.add (i * 7)).off + 3, none⟩ = some (.slice B3 x.f2.f1.length d3) ∧ w'.cell? ⟨(ad.add (i * 7)).block, (ad.add (i * 7)).off + 4, none⟩ = some (.string x.f3.f0.f0) ∧ w'.cell? ⟨(ad.add (i * 7)).block, (ad.add (i * 7)).off + 5, none⟩ = some (.slice B5 x.f3.f0.f1.length d5) ∧ w'.cell? ⟨(ad.add (i * 7)).block, (ad.add (i * 7)).off + 6, none⟩ = some (.int .i64 x.f3.f1)) (go_keep) (first | (go_at_call 12; (with_reducible refine (F1.out _ (below_drew1 PK.out.2.2)).mono ?_); rintro e w2 ⟨rfl, hb⟩; have hbr : Below wr.heap.size wr w2 := below_step (below_drew1 (Below.refl _ _)) hb; have hb2 := below_step PK.out.2.2 hbr; have P2 := Aside0.mk (And.intro hbr hb2); clear hbr; have e0 := (hb2.cell (World.block_lt_of_cell? _ _ PM.out.1)).trans PM.out.1; have e1 := (hb2.cell (World.block_lt_of_cell? _ _ PM.out.2.1)).trans PM.out.2.1; have e2 := (hb2.cell (World.block_lt_of_cell? _ _ PM.out.2.2.1)).trans PM.out.2.2.1; have e3 := (hb2.cell (World.block_lt_of_cell? _ _ PM.out.2.2.2.1)).trans PM.out.2.2.2.1; have e4 := (hb2.cell (World.block_lt_of_cell? _ _ PM.out.2.2.2.2.1)).trans PM.out.2.2.2.2.1; have e5 := (hb2.cell (World.block_lt_of_cell? _ _ PM.out.2.2.2.2.2.1)).trans PM.out.2.2.2.2.2.1; have e6 := (hb2.cell (World.block_lt_of_cell? _ _ PM.out.2.2.2.2.2.2)).trans PM.out.2.2.2.2.2.2; clear hb hb2))
     have e0 := True.intro
     have e0 := (P2.out.2.cell (World.block_lt_of_cell? _ _ PM.out.1)).trans PM.out.1
     have e1 := (P2.out.2.cell (World.block_lt_of_cell? _ _ PM.out.2.1)).trans PM.out.2.1
     have e2 := (P2.out.2.cell (World.block_lt_of_cell? _ _ PM.out.2.2.1)).trans PM.out.2.2.1
     have e3 := (P2.out.2.cell (World.block_lt_of_cell? _ _ PM.out.2.2.2.1)).trans PM.out.2.2.2.1
     have e4 := (P2.out.2.cell (World.block_lt_of_cell? _ _ PM.out.2.2.2.2.1)).trans PM.out.2.2.2.2.1
     have e5 := (P2.out.2.cell (World.block_lt_of_cell? _ _ PM.out.2.2.2.2.2.1)).trans PM.out.2.2.2.2.2.1
     have e6 := (P2.out.2.cell (World.block_lt_of_cell? _ _ PM.out.2.2.2.2.2.2)).trans PM.out.2.2.2.2.2.2
     have hww := P2.out.1.size
     cases okx with
     | false =>
      have hno : allOk cs l = false := by
       rw [Bool.eq_false_iff]
       intro h
       have h2 := allOk_at h i hi2 hi1
       rw [← PX.out.1, PX.out.2, ← PY.out] at h2
       cases h2
      have hR := PP.out
      rw [hno, if_neg (by decide)] at hR
      subst hR
      clear hno e0 e1 e2 e3 e4 e5 e6
      go_wp2
      go_ret2
      exact ⟨_, rfl, Kd.R_nil _ _ _ _ _, P2.out.2⟩
     | true =>
      obtain ⟨nd2, hnd2⟩ : ∃ nd2, nd2 = partN (code ((fs[i]'(by omega)).toNat : Int)) x := ⟨_, rfl⟩
      have F3 := Aside0.mk (F2.out rfl)
      rw [← hnd2] at F3
      have PD := Aside0.mk hnd2
      clear F1 F2 hnd2
      go_wp2_with (fail)
      go_region_held3 (fun w' => w'.cell? (ad.add (i * 7)) = some (.int .i64 x.f0) ∧ w'.cell? ⟨(ad.add (i * 7)).block, (ad.add (i * 7)).off + 1, none⟩ = some (.slice B1 x.f1.length d1) ∧ w'.cell? ⟨(ad.add (i * 7)).block, (ad.add (i * 7)).off + 2, none⟩ = some (.string x.f2.f0) ∧ w'.cell? ⟨(ad.add (i * 7)).block, (ad.add (i * 7)).off + 3, none⟩ = some (.slice B3 x.f2.f1.length d3) ∧ w'.cell? ⟨(ad.add (i * 7)).block, (ad.add (i * 7)).off + 4, none⟩ = some (.string x.f3.f0.f0) ∧ w'.cell? ⟨(ad.add (i * 7)).block, (ad.add (i * 7)).off + 5, none⟩ = some (.slice B5 x.f3.f0.f1.length d5) ∧ w'.cell? ⟨(ad.add (i * 7)).block, (ad.add (i * 7)).off + 6, none⟩ = some (.int .i64 x.f3.f1)) (go_keep) (first | (go_at_call 13; (with_reducible refine (F3.out _ (below_drew1 P2.out.2)).mono ?_); rintro e w4 ⟨v1, v2, rfl, hV1, hV2, hb⟩; obtain ⟨N1, n1, rfl⟩ := Kd.V_slice hV1; obtain ⟨N2, n2, rfl⟩ := Kd.V_slice hV2; have hbr : Below wr.heap.size wr w4 := below_step P2.out.1 (below_step (below_drew1 (Below.refl _ _)) hb); have hb4 := below_step PK.out.2.2 hbr; have P4 := Aside0.mk (And.intro hV1 (And.intro hV2 (And.intro hbr hb4))); clear hbr; have e0 := (hb4.cell (World.block_lt_of_cell? _ _ PM.out.1)).trans PM.out.1; have e1 := (hb4.cell (World.block_lt_of_cell? _ _ PM.out.2.1)).trans PM.out.2.1; have e2 := (hb4.cell (World.block_lt_of_cell? _ _ PM.out.2.2.1)).trans PM.out.2.2.1; have e3 := (hb4.cell (World.block_lt_of_cell? _ _ PM.out.2.2.2.1)).trans PM.out.2.2.2.1; have e4 := (hb4.cell (World.block_lt_of_cell? _ _ PM.out.2.2.2.2.1)).trans PM.out.2.2.2.2.1; have e5 := (hb4.cell (World.block_lt_of_cell? _ _ PM.out.2.2.2.2.2.1)).trans PM.out.2.2.2.2.2.1; have e6 := (hb4.cell (World.block_lt_of_cell? _ _ PM.out.2.2.2.2.2.2)).trans PM.out.2.2.2.2.2.2; clear hb hb4 hV1 hV2) | (refine wp_of_if (by rfl) (Kd.N_append_step (ops := #[]) k44 (w0 := w) (W := w4) w.heap.size (by rfl) (.tmp 39) (.tmp 48) 42 44 (.agg #[.int .u8 0, .slice none 0 0, .slice none 0 0]) 56 rfl Tryz.underlying42 info44 rfl (by decide) (by decide) (.slice Ak i ck) (List.zipWith partN (cs.take i) (l.take i)) nd2 [.int .u8 nd2.f0, .slice N1 nd2.f1.length n1, .slice N2 nd2.f2.length n2] (fun k => w.heap.size ≤ k) (fun k => w2.heap.size ≤ k) rfl ?hx ?hp ?hokp ?hfr ?hO ?hB ?hba ?hle ?_); (case hx => rfl); (case hp => exact node_FK P4.out.1 P4.out.2.1); (case hokp => exact (fun k hk => ⟨Nat.le_trans P2.out.2.size hk, fun he => absurd (Kd.N_lt PK.out.2.1 k he.symm) (Nat.not_lt.2 (Nat.le_trans P2.out.1.size hk))⟩)); (case hfr => exact (fun k hk => Nat.le_trans P4.out.2.2.2.size hk)); (case hO => exact Kd.N_below PK.out.2.1 P4.out.2.2.1); (case hB => exact P4.out.2.2.2); (case hba => exact P4.out.2.2.2.size); (case hle => (have h1 := PZ.out; omega)); intro v1 w5 hN2 hb2 hg2 hat2; clear hg2 hat2; have P5 := Aside0.mk (And.intro hN2 hb2); have e0 := (hb2.cell (World.block_lt_of_cell? _ _ PM.out.1)).trans PM.out.1; have e1 := (hb2.cell (World.block_lt_of_cell? _ _ PM.out.2.1)).trans PM.out.2.1; have e2 := (hb2.cell (World.block_lt_of_cell? _ _ PM.out.2.2.1)).trans PM.out.2.2.1; have e3 := (hb2.cell (World.block_lt_of_cell? _ _ PM.out.2.2.2.1)).trans PM.out.2.2.2.1; have e4 := (hb2.cell (World.block_lt_of_cell? _ _ PM.out.2.2.2.2.1)).trans PM.out.2.2.2.2.1; have e5 := (hb2.cell (World.block_lt_of_cell? _ _ PM.out.2.2.2.2.2.1)).trans PM.out.2.2.2.2.2.1; have e6 := (hb2.cell (World.block_lt_of_cell? _ _ PM.out.2.2.2.2.2.2)).trans PM.out.2.2.2.2.2.2; clear hN2 hb2))
      clear e0 e1 e2 e3 e4 e5 e6
      have hw1 : wrap64 ((i : Int) + 1) = ((i + 1 : Nat) : Int) := by unfold wrap64; omega
      go_wp2
      go_roundg g
      case measure => omega
      case rel =>
       have ht : List.zipWith partN (cs.take (i + 1)) (l.take (i + 1)) = List.zipWith partN (cs.take i) (l.take i) ++ [nd2] := by
        rw [List.take_succ_eq_append_getElem hi2, List.take_succ_eq_append_getElem hi1, List.zipWith_append (by rw [List.length_take, List.length_take]; omega), PX.out.2, ← PX.out.1, PD.out]
        rfl
       refine ⟨i + 1, by omega, by first | rfl | rw [hw1] | go_num, fun j h1 h2 h3 => ?_, by rw [ht]; exact P5.out.1, P5.out.2⟩
       by_cases hj : j = i
       ·subst hj
        rw [PX.out.2, ← PX.out.1]
        exact PY.out.symm
       ·exact PK.out.1 j (by omega) h2 h3
  ·rw [if_neg hl]
   have hl' : ((l.length : Int) != (fs.size : Int)) = true := bne_iff_ne.2 (by omega)
   have hl'' : (l.length != fs.size) = true := bne_iff_ne.2 (by omega)
   clear hor h0 PR PS PA
   go_enter Tryz.func6, Tryz.ntmps6
   go_wp2_with (go_at_call 11; (with_reducible refine (FS.out _).mono ?_); rintro e w1 ⟨rfl, ⟨nd, rfl⟩⟩)
   go_ret2
   exact ⟨_, rfl, Kd.R_nil _ _ _ _ _, pw_below_drewN (Below.refl _ _) _⟩
end Go.Proofs.YtncanijjnhkgbaaGreatDoor.PMsgsPut
namespace Go.Proofs.YtncanijjnhkgbaaGreatDoor.PMsgsPut
open Go.RowKit Go.Proofs.YtncanijjnhkgbaaGreatDoorW.PrintWords Go.Proofs.YtncanijjnhkgbaaGreatDoorW.PrintLast Go.Proofs.YtncanijjnhkgbaaGreatDoorW.PrintMore
def v5 : S36 := ⟨5, [], ⟨⟨#[]⟩, []⟩, ⟨⟨⟨#[]⟩, []⟩, 0⟩⟩
theorem put_five : putR 6 [v5] = ([111, 12, 48, 10, 4, 8, 193, 94, 0, 0, 0, 0, 0, 5], 0) := by kernel_rfl
theorem v5_small : ∀ v ∈ [v5], Small v := by
 intro v hv
 rw [List.mem_singleton] at hv
 subst hv
 exact ⟨by decide, by decide, by decide, (fun x hx => by cases hx), ⟨by decide, by decide, (fun s hs => by cases hs)⟩, ⟨by decide, by decide, (fun s hs => by cases hs)⟩⟩
theorem str_nil (W : World) : Kd.string.C W none 0 ([] : List ByteArray) := ⟨rfl, by decide, fun h => absurd h (by decide)⟩
theorem v5_C (W : World) : Kd.C k36 (W.alloc (.cells #[.int .i64 5, .slice none 0 0, .string ⟨#[]⟩, .slice none 0 0, .string ⟨#[]⟩, .slice none 0 0, .int .i64 0] 36)) (some ⟨W.heap.size, 0, none⟩) 1 [v5] := by
 have h := k36_mk (W.alloc (.cells #[.int .i64 5, .slice none 0 0, .string ⟨#[]⟩, .slice none 0 0, .string ⟨#[]⟩, .slice none 0 0, .int .i64 0] 36)) v5 (A1 := none) (c1 := 0) (Nat.le_refl _) (nil_C _) (A3 := none) (c3 := 0) (Nat.le_refl _) (str_nil _) (A5 := none) (c5 := 0) (Nat.le_refl _) (str_nil _)
 refine ⟨rfl, by decide, fun _ => ⟨_, rfl, fun j p hp => ?_⟩⟩
 rcases j with _ | j
 ·simp only [List.getElem?_cons_zero, Option.some.injEq] at hp
  subst hp
  refine ⟨_, rfl, h, fun i u hu => ?_⟩
  have ha : (⟨W.heap.size, 0, none⟩ : Addr).add (0 * k36.sz + i) = ⟨W.heap.size, i, none⟩ := by
   rw [Nat.zero_mul, Nat.zero_add]
   cases i <;> simp [Addr.add]
  rw [ha, blk_cell (blk_new W _) i]
  simp only [List.getElem?_toArray]
  exact hu
 ·simp at hp
theorem head_calls (w : World) : Calls Tryz.prog 4 #[] w fun e w' => e = .returned (.bool true) ∧ Below w.heap.size w w' := by
 have h1 := fun (W : World) => put_calls 6 _ 1 [v5] _ (v5_C W) (Nat.le_refl _) v5_small
 rw [put_five] at h1
 have h2 := fun (W : World) => put_calls 6 none 0 [] W ⟨rfl, by decide, fun h => absurd h (by decide)⟩ (Nat.le_refl _) (fun v hv => by cases hv)
 rw [show putR 6 [] = ([], 181) by kernel_rfl] at h2
 have h3 : msgs_Kind.f 100 [111, 12, 48, 10, 4, 8, 193, 94, 0, 0, 0, 0, 0, 5] = some 6 := by kernel_rfl
 have F1 := Aside0.mk h1
 have F2 := Aside0.mk h2
 have F3 := Aside0.mk h3
 clear h1 h2 h3
 go_enter Tryz.func4, Tryz.ntmps4
 go_wp2_with (fail)
 refine (F1.out _).mono ?_
 rintro e w1 ⟨v1, rfl, hR1, hb1⟩
 obtain ⟨A1, d1, rfl, hl1, hC1⟩ := Kd.R_reads hR1
 have B1 := Aside0.mk (below_step (below_alloc (Below.refl w.heap.size w) _) hb1)
 clear hR1 hb1
 go_wp2_with (fail)
 refine (F2.out _).mono ?_
 rintro e w2 ⟨v2, rfl, hR2, hb2⟩
 have B2 := Aside0.mk (below_step B1.out hb2)
 have F4 := Aside0.mk (msgs_Kind.calls 100 A1 d1 _ 6 w2 (Kd.C_below hC1 hb2) hl1 F3.out)
 clear hR2 hb2 hC1 hl1
 go_wp2_with (go_at_call 7; refine F4.out.mono ?_; rintro e w3 ⟨rfl, hb3⟩; have B3 := Aside0.mk (below_step B2.out hb3))
 go_ret
 exact ⟨rfl, B3.out⟩
end Go.Proofs.YtncanijjnhkgbaaGreatDoor.PMsgsPut
namespace Go.Proofs.YtncanijjnhkgbaaGreatDoor.PMsgsPut
open Go.RowKit Go.Proofs.YtncanijjnhkgbaaGreatDoorW.PrintWords Go.Proofs.YtncanijjnhkgbaaGreatDoorW.PrintLast Go.Proofs.YtncanijjnhkgbaaGreatDoorW.PrintMore
set_option maxHeartbeats 4000000 in
theorem mput_calls (a0 : Int) (A1 : Option Addr) (c1 : Nat) (l : List (S36)) (w : World) (hr : Kd.C k36 w A1 l.length l) (hc : l.length ≤ c1) (hs : ∀ v ∈ l, Small v) :
  Calls Tryz.prog 3 #[.int .i64 a0, .slice A1 l.length c1] w fun e w' => e = .returned (.bool true) ∧ Below w.heap.size w w' := by
 have F1 := Aside0.mk (fun (W : World) => head_calls W)
 have h2 := fun (W : World) (hb : Below w.heap.size w W) => put_calls a0 A1 c1 l W (Kd.C_below hr hb) hc hs
 have h3 := fun (W : World) (hb : Below w.heap.size w W) => refputs_calls a0 A1 c1 l W (Kd.C_below hr hb) hc hs
 generalize putR a0 l = R1 at h2 h3
 obtain ⟨x, e1⟩ := R1
 have F2 := Aside0.mk h2
 have F3 := Aside0.mk h3
 clear h2 h3 hr hc hs
 go_enter Tryz.func3, Tryz.ntmps3
 go_wp2_with (first | (go_at_call 4; refine (F1.out _).mono ?_; rintro e w1 ⟨rfl, hb1⟩; have B1 := Aside0.mk hb1; clear hb1))
 refine (F2.out _ B1.out).mono ?_
 rintro e w2 ⟨v1, rfl, hR1, hb2⟩
 obtain ⟨P1, d1, rfl, hl1, hC1⟩ := Kd.R_reads hR1
 have B2 := Aside0.mk (B1.out.trans (hb2.mono B1.out.size))
 have Q1 := Aside0.mk (fun (W : World) (hb : Below w2.heap.size w2 W) => Kd.C_string (P := Tryz.prog) (A := P1) (c := d1) Tryz.underlying25 Tryz.underlying5 Tryz.underlying9 (Kd.C_below hC1 hb))
 clear hR1 hb2 hl1 hC1 F2
 go_wp2_with (fail)
 refine (F3.out _ B2.out).mono ?_
 rintro e w3 ⟨v2, rfl, hR2, hb3⟩
 obtain ⟨P2, d2, rfl, hl2, hC2⟩ := Kd.R_reads hR2
 have B3 := Aside0.mk (B2.out.trans (hb3.mono B2.out.size))
 have q2 := Kd.C_string (P := Tryz.prog) (A := P2) (c := d2) Tryz.underlying25 Tryz.underlying5 Tryz.underlying9 hC2
 have q1 := Q1.out w3 hb3
 clear hR2 hb3 hl2 hC2 F3 Q1
 go_wp2
 go_ret
 exact ⟨rfl, B3.out⟩
end Go.Proofs.YtncanijjnhkgbaaGreatDoor.PMsgsPut
namespace Go.Proofs.YtncanijjnhkgbaaGreatDoor.PMsgsPut
open Go.RowKit Go.ChangeShapes Go.WideShapes Go.ChangeAt Go.Deep
theorem own : ownKnob Tryz.prog.godebug = none := by kernel_rfl
theorem laidOut : laidOutB Tryz.prog = true := by kernel_rfl
theorem rowsVals : 23 < Tryz.prog.types.size := of_decide_eq_true (by kernel_rfl)
theorem readsVals : Tryz.prog.readableRec 23 = true := by kernel_rfl
set_option maxRecDepth 100000 in
theorem contract (H : Type) (enc : TypeId × Value → H) (W : World) (base : Nat) (args : Array Value) (ds gs : List (DataW H)) (before : List MemPlace)
  (hval : ∀ (j : Nat) t v, Tryz.f3.params[j]? = some t → args[j]? = some v → Value.okWide Tryz.prog W .any base t v)
  (hW : DataW.Whole enc Tryz.prog Tryz.f3.params.toList Rows.msgsPutSpec.vars false W args.toList ds gs before) (hk : Rows.uptoSmall H (ds ++ gs) = true) :
  Calls Tryz.prog 3 args W fun e W' => ∃ v, e = .returned v ∧ Rows.msgsPutSpec.post enc Tryz.prog Tryz.f3 false true false false W args v W' := by
 have hW' := hW
 obtain ⟨p, q, hA0, hV, rfl, hfz, hnd⟩ := hW
 have hA : DataW.TrodAll enc Tryz.prog W 0 (fun _ => true) true Tryz.f3.params.toList args.toList ds p := hA0
 rw [Tryz.params3] at hA hval
 obtain ⟨v0, vs0, d0, ds0, p0, q0, hargs, rfl, rfl, h0, r0⟩ := trodAll_cons hA
 obtain ⟨v1, vs1, d1, ds1, p1, q1, rfl, rfl, rfl, h1, r1⟩ := trodAll_cons r0
 obtain ⟨rfl, rfl, rfl⟩ := trodAll_nil r1
 obtain rfl : args = #[v0, v1] := by cases args; simp_all
 obtain ⟨rfl, rfl⟩ := trodVars_none hV
 obtain ⟨k, rfl, rfl, rfl, hkw⟩ := open_int Tryz.underlying22 (hval 0 22 v0 rfl rfl) h0
 clear hA0
 simp only [List.append_nil] at hW' hk
 have hbulk := of_decide_eq_true hk
 simp only [Rows.uptoBulkAll] at hbulk
 obtain ⟨A1, n1, e1, rfl⟩ := okWide_slice Tryz.underlying23 (hval 1 23 v1 rfl rfl)
 obtain ⟨A1', l1, c1, g1, hc1, hr1, hs1, hm1⟩ := vals_reads h1 (by omega) rfl
 have hlt : ∀ x ∈ [] ++ (p1 ++ []) ++ [], x.block < W.heap.size := fun x hx => by simpa using hW'.lt x (by simpa using hx)
 have hx1 : ∀ x ∈ p1, x.block < W.heap.size := fun x hx => hlt x (by simp [hx])
 cases g1
 refine (mput_calls k _ _ l1 W hr1 hc1 hs1).mono fun e W' ⟨he, hb⟩ => ?_
 subst he
 exact ⟨_, rfl, law_post hW' hb rfl rfl (by kernel_rfl) rfl
  (fun sp hsp => trodAll_cons_mk (shut_int Tryz.underlying22 hkw) (by have h := trodAll_cons_mk (WideElems.Trod_stays (sp' := sp) laidOut readsVals rowsVals h1 (fun x hx => hb.same (hx1 x hx)) (fun x hx => hsp x (by simp [hx]))) (trodAll_mk0 (enc := enc)); rwa [List.append_nil] at h))⟩
def putCells (cs : Array Value) : Obj → Obj
 | .cells _ t frozen => .cells cs t frozen
 | o => o
def u8s (l : List Nat) : Array Value := (l.map fun (n : Nat) => Value.int .u8 n).toArray
noncomputable def laidWorld (os : Os) : World :=
 { World.holding Tryz.prog os ⟨#[], #[], []⟩ with
  heap := ((World.holding Tryz.prog os ⟨#[], #[], []⟩).heap.modify 0 (putCells (u8s Go.Pinned.utf8FirstZ))).modify 1 (putCells (u8s ([128, 191, 160, 191, 128, 159, 144, 191, 128, 143] ++ List.replicate 22 0))) }
theorem laid_met (os : Os) : laidMet Tryz.prog Rows.msgsPutUptoRow.laid ((laidWorld os).forCall (fun _ _ => 0) ⟨#[], #[.int .i64 0, .slice none 0 0], []⟩).memory :=
 laidMet_of_run' 8 (by kernel_rfl) (by kernel_rfl)
theorem reads (os : Os) {H : Type} (enc : TypeId × Value → H) : ∃ places, DataW.whole enc Tryz.prog ((laidWorld os).forCall (fun _ _ => 0) ⟨#[], #[.int .i64 0, .slice none 0 0], []⟩).memory Tryz.f3.params.toList Rows.msgsPutSpec.vars false #[.int .i64 0, .slice none 0 0].toList 8 = some ([.lit (.int .i64 0), .nil], [], places) :=
 ⟨[], by kernel_rfl⟩
set_option maxRecDepth 100000 in
theorem liftedUpto (os : Os) (started : os.Started) (H : Type) (enc : TypeId × Value → H) (F : Stop.Interp) :
  ReturnsInHanded {} Tryz.checked os 3 .any ((Rows.OpenSpec.upto Rows.msgsPutSpec).preRow enc Tryz.prog Tryz.f3 Rows.msgsPutUptoRow.domain false Rows.msgsPutUptoRow.laid) (((Rows.OpenSpec.upto Rows.msgsPutSpec).at F).post enc Tryz.prog Tryz.f3 false true false false) := by
 obtain ⟨places, hx⟩ := reads os enc
 refine returnsInHanded_of_row (C := Tryz.checked) (s := Rows.OpenSpec.upto Rows.msgsPutSpec) own started (by kernel_rfl) Tryz.func3
  (witness_row_at (enc := enc) (C := Tryz.checked) false (laidWorld os) #[.int .i64 0, .slice none 0 0] rfl (by kernel_rfl) (by kernel_rfl) (by kernel_rfl)
   (OpenSpec.preRow_of_cond 8 hx (by kernel_rfl) (fun k hk => by cases hk; kernel_rfl) (by kernel_rfl) (laid_met os))) ?_
 intro W base args ds gs before hval hW _ hcond _ _ _ _
 exact contract H enc W base args ds gs before hval hW (hcond _ rfl)
theorem saidUpto : Rows.MsgsPutUptoSaid :=
 OpenClaim.holds_of_cond 3 Tryz.f3 rfl rfl rfl rfl rfl rfl rfl ⟨rfl, rfl, rfl, rfl, rfl⟩ rfl rfl rfl rfl rfl (by kernel_rfl) Tryz.func3 (by kernel_rfl)
  (of_decide_eq_true (by kernel_rfl)) (by unfold Func.isWrapper; first | (rw [if_pos (by decide +kernel)]; kernel_rfl) | (rw [if_neg (by decide +kernel)]; exact ⟨rfl, rfl⟩))
  (fun os started H enc _ F => by rw [OpenClaim.pre_eq_preRow]; exact liftedUpto os started H enc F)
theorem plain (f : FuncId) (fn : Func) (hf : Tryz.pinned.checked.prog.funcNamed "warder/warderlaw18.MsgsPut" = some f) (hfn : Tryz.pinned.checked.prog.funcs[f]? = some fn) :
  true = Tryz.pinned.checked.prog.looks [] ∧ ∀ (j : Nat) t, fn.params[j]? = some t → Tryz.pinned.checked.prog.wantsStandIn t = false := by
 obtain rfl : f = 3 := Option.some.inj ((show Tryz.prog.funcNamed "warder/warderlaw18.MsgsPut" = some 3 by kernel_rfl).symm.trans hf) |>.symm
 obtain rfl : fn = Tryz.f3 := (Option.some.inj (Tryz.func3.symm.trans hfn)).symm
 refine ⟨by kernel_rfl, fun j t ht => ?_⟩
 rw [Tryz.params3] at ht
 have hm := Array.mem_of_getElem? ht
 have hc : t = 22 ∨ t = 23 := by
  simp at hm
  omega
 rcases hc with rfl | rfl
 ·exact (show Tryz.prog.wantsStandIn 22 = false by kernel_rfl)
 ·exact (show Tryz.prog.wantsStandIn 23 = false by kernel_rfl)
end Go.Proofs.YtncanijjnhkgbaaGreatDoor.PMsgsPut
namespace Go.Proofs.YtncanijjnhkgbaaGreatDoor
theorem msgsPut_upto : Rows.MsgsPutUptoCardSaid :=
 Claim7.holds_tied_plain_at .later [] _ _ _ _ PMsgsPut.saidUpto (fun _ h => by cases h) (by kernel_rfl) (fun _ h => by cases h) msgsPutUpto_row_tie rfl ⟨rfl, rfl⟩ (by kernel_rfl) rfl PMsgsPut.plain (by kernel_rfl)
#print axioms msgsPut_upto
end Go.Proofs.YtncanijjnhkgbaaGreatDoor
