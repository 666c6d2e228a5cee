/- A part of the proof of the law MsgsUnlike, put together by a program of this seat's prover (wip/pack.py): its own texts. No condition. -/
import Derived.Test.YtncanijjnhkgbaaDoorA3
import Derived.Test.YtncanijjnhkgbaaDoorA2
import Derived.Lib.ConvBytes
import Derived.Defers
import Derived.Recover
set_option linter.unusedVariables false
set_option linter.unusedSimpArgs false
namespace Go.Proofs.YtncanijjnhkgbaaDoor.PMsgsUnlike
open Go.RowKit Go.Proofs.YtncanijjnhkgbaaDoorW.PrintWords Go.Proofs.YtncanijjnhkgbaaDoorW.PrintLast Go.Proofs.YtncanijjnhkgbaaDoorW.PrintMore
def stT9 : Bool × List (List Nat × List Nat) := (true, [([], []), ([], []), ([1], [1]), ([2], [2]), ([3, 2, 2], [2, 3]), ([2, 4], [2, 4]), ([5, 4], [5]), ([6], [6]), ([7, 6], [6, 7]), ([8, 6], [6, 8]), ([9, 6, 6], [6, 9]), ([10], [10]), ([11, 10], [10, 11]), ([12, 10], [10, 12]), ([10, 13, 6], [6, 10, 13]), ([6, 14], [6, 14]), ([0, 10, 0], [0]), ([15, 16, 0, 1, 2, 3, 4, 5, 6, 7, 8, 9, 10, 11, 12, 13, 14, 15, 16], [15])])
def stB9 : List Nat := [0, 0, 2, 6, 14, 30, 62, 126, 254, 510, 1022, 2046, 4094, 8190, 16382, 32766, 2047, 131071]
theorem st_tab9 : rtab .any (opsOf Tryd.f9 9) = stT9 := by kernel_rfl
theorem st_bits9 : waitsOk stT9.2 stB9 = true := by kernel_rfl
def stT18 : Bool × List (List Nat × List Nat) := (true, [([], []), ([], []), ([1], [1]), ([2], [2]), ([3, 2, 2], [2, 3]), ([2, 4], [2, 4]), ([5, 4], [5]), ([6], [6]), ([7, 6], [6, 7]), ([8, 6], [6, 8]), ([9, 6], [6, 9]), ([6, 10], [6, 10]), ([0, 6, 0], [0]), ([11, 12, 0, 1, 2, 3, 4, 5, 6, 7, 8, 9, 10, 11, 12], [11])])
def stB18 : List Nat := [0, 0, 2, 6, 14, 30, 62, 126, 254, 510, 1022, 2046, 127, 8191]
theorem st_tab18 : rtab .any (opsOf Tryd.f9 18) = stT18 := by kernel_rfl
theorem st_bits18 : waitsOk stT18.2 stB18 = true := by kernel_rfl
set_option maxHeartbeats 8000000 in
set_option maxRecDepth 100000 in
theorem state_bool (T : Int) (body : List Int) (kids : List S45) (i : Int) (Ab : Option Addr) (cb : Nat) (b : List Int) (r : ByteArray) (Al : Option Addr) (cl : Nat) (l : List ByteArray) (sr : ByteArray) (As : Option Addr) (cs : Nat) (sl : List ByteArray) (e : Int) (w : World)
  (hN : ∀ W, Below w.heap.size w W → Calls Tryd.prog 13 #[.iface 4 (.bool (i == 1))] W fun e' w' => ∃ v1 v2 : Value, e' = .returned (.tuple #[.agg #[.int .u8 T, v1, v2], .bool true]) ∧ Kd.V (Kd.int .u8) 5 w' W.heap.size (fun k => W.heap.size ≤ k) v1 body ∧ Kd.V k45 45 w' W.heap.size (fun k => W.heap.size ≤ k) v2 kids ∧ Below W.heap.size W w') :
  Calls Tryd.prog 9 #[anyV 1, .agg #[.int .i64 i, .slice Ab b.length cb, .string r, .slice Al l.length cl, .string sr, .slice As sl.length cs, .int .i64 e]] w fun e' w' => ∃ v1 v2 : Value, e' = .returned (.tuple #[.agg #[.int .u8 T, v1, v2], .bool ((blankB i b r l sr sl e 105 && (decide (i = 0) || decide (i = 1))))]) ∧ Kd.V (Kd.int .u8) 5 w' w.heap.size (fun k => w.heap.size ≤ k) v1 body ∧ Kd.V k45 45 w' w.heap.size (fun k => w.heap.size ≤ k) v2 kids ∧ Below w.heap.size w w' := by
 have PN := Aside0.mk hN
 have PB := Aside0.mk (fun W => blank_105 i Ab cb b r Al cl l sr As cs sl e W)
 have t0 := any_ta1_0
 have t1 := any_ta1_1
 generalize blankB i b r l sr sl e 105 = P at PB ⊢
 generalize b.length = nb at PN PB ⊢
 generalize l.length = nl at PN PB ⊢
 generalize sl.length = ns at PN PB ⊢
 obtain ⟨X, hX⟩ : ∃ X, X = anyV 1 := ⟨_, rfl⟩
 rw [← hX] at t0 t1 ⊢
 clear hX hN
 have PC : P = false ∨ (P = true ∧ i = 0) ∨ (P = true ∧ i = 1) ∨ (P = true ∧ i ≠ 0 ∧ i ≠ 1) := by
  cases P
  ·exact .inl rfl
  ·by_cases h0 : i = 0
   ·exact .inr (.inl ⟨rfl, h0⟩)
   ·by_cases h1 : i = 1
    ·exact .inr (.inr (.inl ⟨rfl, h1⟩))
    ·exact .inr (.inr (.inr ⟨rfl, h0, h1⟩))
 rcases PC with hP | ⟨hP, h0⟩ | ⟨hP, h1⟩ | ⟨hP, h0, h1⟩
 ·skip
  subst hP
  rw [Bool.false_and]
  go_enter Tryd.func9, Tryd.ntmps9
  go_wp2_with (go_at_call 13; refine (PN.out _ (start3_below w #[.int .i64 i, .slice Ab nb cb, .string r, .slice Al nl cl, .string sr, .slice As ns cs, .int .i64 e])).mono ?_; rintro e' w1 ⟨v1, v2, rfl, hV1, hV2, hb⟩; obtain ⟨A1, c1, rfl⟩ := Kd.V_slice hV1; obtain ⟨A2, c2, rfl⟩ := Kd.V_slice hV2; generalize hm1 : body.length = m1 at hV1 ⊢; generalize hm2 : kids.length = m2 at hV2 ⊢; have P1 := Aside0.mk (And.intro hV1 (And.intro hV2 hb)); clear hV1 hV2 hb hm1 hm2)
  obtain ⟨o, ho⟩ : ∃ o, Obj.cells #[.int .u8 T, .slice A1 m1 c1, .slice A2 m2 c2] 45 = o := ⟨_, rfl⟩
  have kb := blk_alloc (blk_below (start3_0 w #[.int .i64 i, .slice Ab nb cb, .string r, .slice Al nl cl, .string sr, .slice As ns cs, .int .i64 e]) P1.out.2.2) o
  have kr := blk_alloc (blk_below (start3_1 w #[.int .i64 i, .slice Ab nb cb, .string r, .slice Al nl cl, .string sr, .slice As ns cs, .int .i64 e]) P1.out.2.2) o
  have kn := blk_new w1 o
  have hlt : w.heap.size + 2 < w1.heap.size := blk_lt (blk_below (start3_2 w #[.int .i64 i, .slice Ab nb cb, .string r, .slice Al nl cl, .string sr, .slice As ns cs, .int .i64 e]) P1.out.2.2)
  have hV1 := Kd.V_alloc P1.out.1 o
  have hV2 := Kd.V_alloc P1.out.2.1 o
  have hB := below_alloc (below_step (start3_below w #[.int .i64 i, .slice Ab nb cb, .string r, .slice Al nl cl, .string sr, .slice As ns cs, .int .i64 e]) P1.out.2.2) o
  rw [ho]
  generalize w1.alloc o = W at kb kr kn hV1 hV2 hB ⊢
  rw [← ho] at kn
  clear ho
  have b0 : W.cell? ⟨w.heap.size, 0, none⟩ = some (.int .i64 i) := (blk_cell kb 0).trans rfl
  have b1 : W.cell? ⟨w.heap.size, 1, none⟩ = some (.slice Ab nb cb) := (blk_cell kb 1).trans rfl
  have b2 : W.cell? ⟨w.heap.size, 2, none⟩ = some (.string r) := (blk_cell kb 2).trans rfl
  have b3 : W.cell? ⟨w.heap.size, 3, none⟩ = some (.slice Al nl cl) := (blk_cell kb 3).trans rfl
  have b4 : W.cell? ⟨w.heap.size, 4, none⟩ = some (.string sr) := (blk_cell kb 4).trans rfl
  have b5 : W.cell? ⟨w.heap.size, 5, none⟩ = some (.slice As ns cs) := (blk_cell kb 5).trans rfl
  have b6 : W.cell? ⟨w.heap.size, 6, none⟩ = some (.int .i64 e) := (blk_cell kb 6).trans rfl
  have x0 : W.cell? ⟨w1.heap.size, 0, none⟩ = some (.int .u8 T) := (blk_cell kn 0).trans rfl
  have x1 : W.cell? ⟨w1.heap.size, 1, none⟩ = some (.slice A1 m1 c1) := (blk_cell kn 1).trans rfl
  have x2 : W.cell? ⟨w1.heap.size, 2, none⟩ = some (.slice A2 m2 c2) := (blk_cell kn 2).trans rfl
  have r0 := (blk_cell kr 0).trans rfl
  have y0 := blk_frozen kr 0
  have r1 := (blk_cell kr 1).trans rfl
  have y1 := blk_frozen kr 1
  have r2 := (blk_cell kr 2).trans rfl
  have y2 := blk_frozen kr 2
  have PK := Aside0.mk (And.intro (fun (w' : World) (hb : Below W.heap.size W w') => blk_below kr hb) (And.intro (fun (w' : World) (hb : Below W.heap.size W w') => blk_below kb hb) (And.intro (fun (w' : World) (hb : Below W.heap.size W w') => blk_below kn hb) (And.intro hV1 (And.intro hV2 hB)))))
  have PW0 := Aside0.mk (And.intro (Below.refl W.heap.size W) kr)
  have hne : w.heap.size + 1 ≠ w1.heap.size := by omega
  have hne2 := hne.symm
  have hne3 : w.heap.size ≠ w1.heap.size := by omega
  have hne4 := hne3.symm
  clear kb kr kn hV1 hV2 hB P1 hlt
  refine start_ (n := 18) (S := fun w' => w'.cell? ⟨w.heap.size, 0, none⟩ = some (.int .i64 i) ∧ w'.cell? ⟨w.heap.size, 1, none⟩ = some (.slice Ab nb cb) ∧ w'.cell? ⟨w.heap.size, 2, none⟩ = some (.string r) ∧ w'.cell? ⟨w.heap.size, 3, none⟩ = some (.slice Al nl cl) ∧ w'.cell? ⟨w.heap.size, 4, none⟩ = some (.string sr) ∧ w'.cell? ⟨w.heap.size, 5, none⟩ = some (.slice As ns cs) ∧ w'.cell? ⟨w.heap.size, 6, none⟩ = some (.int .i64 e) ∧ w'.cell? ⟨w1.heap.size, 0, none⟩ = some (.int .u8 T) ∧ w'.cell? ⟨w1.heap.size, 1, none⟩ = some (.slice A1 m1 c1) ∧ w'.cell? ⟨w1.heap.size, 2, none⟩ = some (.slice A2 m2 c2)) (ds := []) #[false, false, false, false, false, false, false, false, false, false, false, false, false, false, false, false, false, false] (by kernel_rfl) rfl rfl ⟨b0, b1, b2, b3, b4, b5, b6, x0, x1, x2⟩ (fun hHeld => ?_)
  refine with_tabW st_tab9 st_bits9 (fun HT_ HW_ => ?_)
  refine pure_ (i := 1) (N := some 47) (v := ?_) (a' := ?_) #[false, true, false, false, false, false, false, false, false, false, false, false, false, false, false, false, false, false] rfl rfl (any_of HT_.out (by kernel_rfl)) (fun _ _ _ h => h) (Or.inl ⟨by rfl, ?_⟩) ?_ ?_
  rotate_left
  ·intro w'
   go_simp
   with_reducible rfl
  rotate_left
  ·simp only [Act.put, List.setIfInBounds_toArray, List.set_cons_zero, List.set_cons_succ, i64_w, i32_w]
   rfl
  refine pure_ (i := 2) (N := some 48) (v := ?_) (a' := ?_) #[false, true, true, false, false, false, false, false, false, false, false, false, false, false, false, false, false, false] rfl rfl (any_of HT_.out (by kernel_rfl)) (fun _ _ _ h => h) (Or.inl ⟨by rfl, ?_⟩) ?_ ?_
  rotate_left
  ·intro w'
   go_simp
   with_reducible rfl
  rotate_left
  ·simp only [Act.put, List.setIfInBounds_toArray, List.set_cons_zero, List.set_cons_succ, i64_w, i32_w]
   rfl
  refine take_ (i := 0) (N := some 46) (v := ?_) (a' := ?_) #[true, true, true, false, false, false, false, false, false, false, false, false, false, false, false, false, false, false] rfl rfl (take_ofW HT_.out HW_.out (by kernel_rfl)) (fun _ _ _ h => h) (Or.inl ⟨by rfl, ?_⟩) hHeld ?_ ?_
  rotate_left
  ·rintro w' ⟨s0, s1, s2, s3, s4, s5, s6, s7, s8, s9⟩
   go_simp
   with_reducible rfl
  rotate_left
  ·simp only [Act.put, List.setIfInBounds_toArray, List.set_cons_zero, List.set_cons_succ, i64_w, i32_w]
   rfl
  refine take_ (i := 3) (N := some 49) (v := ?_) (a' := ?_) #[true, true, true, true, false, false, false, false, false, false, false, false, false, false, false, false, false, false] rfl rfl (take_ofW HT_.out HW_.out (by kernel_rfl)) (fun _ _ _ h => h) (Or.inl ⟨by rfl, ?_⟩) hHeld ?_ ?_
  rotate_left
  ·rintro w' ⟨s0, s1, s2, s3, s4, s5, s6, s7, s8, s9⟩
   go_simp
   with_reducible rfl
  rotate_left
  ·simp only [Act.put, List.setIfInBounds_toArray, List.set_cons_zero, List.set_cons_succ, i64_w, i32_w]
   rfl
  refine one_ (i := 4) (N := some 50) #[true, true, true, true, true, false, false, false, false, false, false, false, false, false, false, false, false, false] rfl rfl (one_of HT_.out (by kernel_rfl)) (by decide) (fun K hK => ?_)
  refine goes_ Tryd.func14 (by kernel_rfl) rfl #[.agg #[.int .i64 i, .slice Ab nb cb, .string r, .slice Al nl cl, .string sr, .slice As ns cs, .int .i64 e], .int .u8 105] (by rfl) rfl rfl (by (try simp only [List.map_toArray, List.map_cons, List.map_nil]); first | done | rfl) ?_
  refine (PB.out _).mono ?_
  rintro e' w' ⟨rfl, hb⟩; refine ⟨_, rfl, ?_⟩; have hbW : Below W.heap.size W w' := (below_step (below_drew1 (Below.refl _ _)) hb); have kb2 := PK.out.2.1 w' hbW; have kr2 := PK.out.1 w' hbW; have kn2 := PK.out.2.2.1 w' hbW; have b20 := (blk_cell kb2 0).trans rfl; have b21 := (blk_cell kb2 1).trans rfl; have b22 := (blk_cell kb2 2).trans rfl; have b23 := (blk_cell kb2 3).trans rfl; have b24 := (blk_cell kb2 4).trans rfl; have b25 := (blk_cell kb2 5).trans rfl; have b26 := (blk_cell kb2 6).trans rfl; have x20 := (blk_cell kn2 0).trans rfl; have r20 := (blk_cell kr2 0).trans rfl; have y20 := blk_frozen kr2 0; have x21 := (blk_cell kn2 1).trans rfl; have r21 := (blk_cell kr2 1).trans rfl; have y21 := blk_frozen kr2 1; have x22 := (blk_cell kn2 2).trans rfl; have r22 := (blk_cell kr2 2).trans rfl; have y22 := blk_frozen kr2 2; have PW := Aside0.mk (And.intro hbW kr2); clear hb hbW kb2 kr2 kn2
  refine hK.out _ _ ⟨b20, b21, b22, b23, b24, b25, b26, x20, x21, x22⟩ (fun hHeld => ?_)
  clear hK K
  refine norm_ (a' := ?_) ?_ ?_
  rotate_left
  ·show Act.put _ (some 50) _ = _
   simp only [Act.put, List.setIfInBounds_toArray, List.set_cons_zero, List.set_cons_succ, i64_w, i32_w]
   rfl
  refine pure_ (i := 5) (N := some 51) (v := ?_) (a' := ?_) #[true, true, true, true, true, true, false, false, false, false, false, false, false, false, false, false, false, false] rfl rfl (any_of HT_.out (by kernel_rfl)) (fun _ _ _ h => h) (Or.inl ⟨by rfl, ?_⟩) ?_ ?_
  rotate_left
  ·intro w'
   go_simp
   with_reducible rfl
  rotate_left
  ·simp only [Act.put, List.setIfInBounds_toArray, List.set_cons_zero, List.set_cons_succ, i64_w, i32_w]
   rfl
  refine pure_ (i := 6) (N := some 52) (v := ?_) (a' := ?_) #[true, true, true, true, true, true, true, false, false, false, false, false, false, false, false, false, false, false] rfl rfl (any_of HT_.out (by kernel_rfl)) (fun _ _ _ h => h) (Or.inl ⟨by rfl, ?_⟩) ?_ ?_
  rotate_left
  ·intro w'
   go_simp
   with_reducible rfl
  rotate_left
  ·simp only [Act.put, List.setIfInBounds_toArray, List.set_cons_zero, List.set_cons_succ, i64_w, i32_w]
   rfl
  refine pure_ (i := 7) (N := some 53) (v := undef) (a' := ?_) #[true, true, true, true, true, true, true, true, false, false, false, false, false, false, false, false, false, false] rfl rfl (any_of HT_.out (by kernel_rfl)) (fun _ _ _ h => h) (Or.inr ⟨by rfl, rfl⟩) ?_ ?_
  rotate_left
  ·simp only [Act.put, List.setIfInBounds_toArray, List.set_cons_zero, List.set_cons_succ, i64_w, i32_w]
   rfl
  refine pure_ (i := 8) (N := some 54) (v := undef) (a' := ?_) #[true, true, true, true, true, true, true, true, true, false, false, false, false, false, false, false, false, false] rfl rfl (any_of HT_.out (by kernel_rfl)) (fun _ _ _ h => h) (Or.inr ⟨by rfl, rfl⟩) ?_ ?_
  rotate_left
  ·simp only [Act.put, List.setIfInBounds_toArray, List.set_cons_zero, List.set_cons_succ, i64_w, i32_w]
   rfl
  refine pure_ (i := 9) (N := some 55) (v := undef) (a' := ?_) #[true, true, true, true, true, true, true, true, true, true, false, false, false, false, false, false, false, false] rfl rfl (any_of HT_.out (by kernel_rfl)) (fun _ _ _ h => h) (Or.inr ⟨by rfl, rfl⟩) ?_ ?_
  rotate_left
  ·simp only [Act.put, List.setIfInBounds_toArray, List.set_cons_zero, List.set_cons_succ, i64_w, i32_w]
   rfl
  refine pure_ (i := 10) (N := some 56) (v := undef) (a' := ?_) #[true, true, true, true, true, true, true, true, true, true, true, false, false, false, false, false, false, false] rfl rfl (any_of HT_.out (by kernel_rfl)) (fun _ _ _ h => h) (Or.inr ⟨by rfl, rfl⟩) ?_ ?_
  rotate_left
  ·simp only [Act.put, List.setIfInBounds_toArray, List.set_cons_zero, List.set_cons_succ, i64_w, i32_w]
   rfl
  refine pure_ (i := 11) (N := some 57) (v := undef) (a' := ?_) #[true, true, true, true, true, true, true, true, true, true, true, true, false, false, false, false, false, false] rfl rfl (any_of HT_.out (by kernel_rfl)) (fun _ _ _ h => h) (Or.inr ⟨by rfl, rfl⟩) ?_ ?_
  rotate_left
  ·simp only [Act.put, List.setIfInBounds_toArray, List.set_cons_zero, List.set_cons_succ, i64_w, i32_w]
   rfl
  refine pure_ (i := 12) (N := some 58) (v := undef) (a' := ?_) #[true, true, true, true, true, true, true, true, true, true, true, true, true, false, false, false, false, false] rfl rfl (any_of HT_.out (by kernel_rfl)) (fun _ _ _ h => h) (Or.inr ⟨by rfl, rfl⟩) ?_ ?_
  rotate_left
  ·simp only [Act.put, List.setIfInBounds_toArray, List.set_cons_zero, List.set_cons_succ, i64_w, i32_w]
   rfl
  refine pure_ (i := 13) (N := some 59) (v := undef) (a' := ?_) #[true, true, true, true, true, true, true, true, true, true, true, true, true, true, false, false, false, false] rfl rfl (any_of HT_.out (by kernel_rfl)) (fun _ _ _ h => h) (Or.inr ⟨by rfl, rfl⟩) ?_ ?_
  rotate_left
  ·simp only [Act.put, List.setIfInBounds_toArray, List.set_cons_zero, List.set_cons_succ, i64_w, i32_w]
   rfl
  refine pure_ (i := 14) (N := some 60) (v := undef) (a' := ?_) #[true, true, true, true, true, true, true, true, true, true, true, true, true, true, true, false, false, false] rfl rfl (any_of HT_.out (by kernel_rfl)) (fun _ _ _ h => h) (Or.inr ⟨by rfl, rfl⟩) ?_ ?_
  rotate_left
  ·simp only [Act.put, List.setIfInBounds_toArray, List.set_cons_zero, List.set_cons_succ, i64_w, i32_w]
   rfl
  refine pure_ (i := 15) (N := some 61) (v := ?_) (a' := ?_) #[true, true, true, true, true, true, true, true, true, true, true, true, true, true, true, true, false, false] rfl rfl (any_of HT_.out (by kernel_rfl)) (fun _ _ _ h => h) (Or.inl ⟨by rfl, ?_⟩) ?_ ?_
  rotate_left
  ·intro w'
   go_simp
   with_reducible rfl
  rotate_left
  ·simp only [Act.put, List.setIfInBounds_toArray, List.set_cons_zero, List.set_cons_succ, i64_w, i32_w]
   rfl
  refine one_ (i := 16) (N := none) #[true, true, true, true, true, true, true, true, true, true, true, true, true, true, true, true, true, false] rfl rfl (one_of HT_.out (by kernel_rfl)) (by decide) (fun K hK => ?_)
  refine skip_ (w1 := ?_) (by rfl) rfl ?_ ?_
  rotate_left
  ·go_simp
   rfl
  have kb3 := off3 (PK.out.2.1 w' PW.out.1) (show w.heap.size ≠ w.heap.size + 1 by omega) (.int .u8 T) (.slice A1 m1 c1) (.slice A2 m2 c2)
  have kn3 := off3 (PK.out.2.2.1 w' PW.out.1) hne2 (.int .u8 T) (.slice A1 m1 c1) (.slice A2 m2 c2)
  refine hK.out _ _ ⟨(blk_cell kb3 0).trans rfl, (blk_cell kb3 1).trans rfl, (blk_cell kb3 2).trans rfl, (blk_cell kb3 3).trans rfl, (blk_cell kb3 4).trans rfl, (blk_cell kb3 5).trans rfl, (blk_cell kb3 6).trans rfl, (blk_cell kn3 0).trans rfl, (blk_cell kn3 1).trans rfl, (blk_cell kn3 2).trans rfl⟩ (fun hHeld => ?_)
  clear hK K kb3 kn3
  refine pure_ (i := 17) (N := some 5) (v := ?_) (a' := ?_) #[true, true, true, true, true, true, true, true, true, true, true, true, true, true, true, true, true, true] rfl rfl (any_of HT_.out (by kernel_rfl)) (fun _ _ _ h => h) (Or.inl ⟨by rfl, ?_⟩) ?_ ?_
  rotate_left
  ·intro w'
   go_simp
   with_reducible rfl
  rotate_left
  ·simp only [Act.put, List.setIfInBounds_toArray, List.set_cons_zero, List.set_cons_succ, i64_w, i32_w]
   rfl
  refine done_ (done_of HT_.out (by kernel_rfl)) ?_
  go_wp2
  have kf := put3 PW.out.2 (.int .u8 T) (.slice A1 m1 c1) (.slice A2 m2 c2)
  refine bodyPost_ret (results_ct rfl _ _ (w.heap.size + 1) 45 #[.int .u8 T, .slice A1 m1 c1, .slice A2 m2 c2] (0, 0) _ rfl (by first | exact kf | exact blk_drew kf) Tryd.underlying45 rfl (by kernel_rfl)) rfl ?_
  have hk1 : ∀ k, (start3 w #[.int .i64 i, .slice Ab nb cb, .string r, .slice Al nl cl, .string sr, .slice As ns cs, .int .i64 e]).heap.size ≤ k → k ≠ w.heap.size + 1 := fun k hk => by rw [start3_size] at hk; omega
  have hk2 : ∀ k, (start3 w #[.int .i64 i, .slice Ab nb cb, .string r, .slice Al nl cl, .string sr, .slice As ns cs, .int .i64 e]).heap.size ≤ k → w.heap.size ≤ k := fun k hk => by rw [start3_size] at hk; omega
  have q1 := far3 (Kd.V_below PK.out.2.2.2.1 PW.out.1) hk1 (.int .u8 T) (.slice A1 m1 c1) (.slice A2 m2 c2)
  have q2 := far3 (Kd.V_below PK.out.2.2.2.2.1 PW.out.1) hk1 (.int .u8 T) (.slice A1 m1 c1) (.slice A2 m2 c2)
  have q3 := set3 (below_step PK.out.2.2.2.2.2 PW.out.1) (Nat.le_succ w.heap.size) (.int .u8 T) (.slice A1 m1 c1) (.slice A2 m2 c2)
  exact ⟨_, _, rfl, by first | exact Kd.V_mono q1 hk2 | exact Kd.V_drew (Kd.V_mono q1 hk2), by first | exact Kd.V_mono q2 hk2 | exact Kd.V_drew (Kd.V_mono q2 hk2), by first | exact q3 | exact below_drew1 q3⟩
 ·skip
  subst hP h0
  have hr : (true && (decide ((0 : Int) = 0) || decide ((0 : Int) = 1))) = true := rfl
  rw [hr]
  clear hr
  go_enter Tryd.func9, Tryd.ntmps9
  go_wp2_with (go_at_call 13; refine (PN.out _ (start3_below w #[.int .i64 0, .slice Ab nb cb, .string r, .slice Al nl cl, .string sr, .slice As ns cs, .int .i64 e])).mono ?_; rintro e' w1 ⟨v1, v2, rfl, hV1, hV2, hb⟩; obtain ⟨A1, c1, rfl⟩ := Kd.V_slice hV1; obtain ⟨A2, c2, rfl⟩ := Kd.V_slice hV2; generalize hm1 : body.length = m1 at hV1 ⊢; generalize hm2 : kids.length = m2 at hV2 ⊢; have P1 := Aside0.mk (And.intro hV1 (And.intro hV2 hb)); clear hV1 hV2 hb hm1 hm2)
  obtain ⟨o, ho⟩ : ∃ o, Obj.cells #[.int .u8 T, .slice A1 m1 c1, .slice A2 m2 c2] 45 = o := ⟨_, rfl⟩
  have kb := blk_alloc (blk_below (start3_0 w #[.int .i64 0, .slice Ab nb cb, .string r, .slice Al nl cl, .string sr, .slice As ns cs, .int .i64 e]) P1.out.2.2) o
  have kr := blk_alloc (blk_below (start3_1 w #[.int .i64 0, .slice Ab nb cb, .string r, .slice Al nl cl, .string sr, .slice As ns cs, .int .i64 e]) P1.out.2.2) o
  have kn := blk_new w1 o
  have hlt : w.heap.size + 2 < w1.heap.size := blk_lt (blk_below (start3_2 w #[.int .i64 0, .slice Ab nb cb, .string r, .slice Al nl cl, .string sr, .slice As ns cs, .int .i64 e]) P1.out.2.2)
  have hV1 := Kd.V_alloc P1.out.1 o
  have hV2 := Kd.V_alloc P1.out.2.1 o
  have hB := below_alloc (below_step (start3_below w #[.int .i64 0, .slice Ab nb cb, .string r, .slice Al nl cl, .string sr, .slice As ns cs, .int .i64 e]) P1.out.2.2) o
  rw [ho]
  generalize w1.alloc o = W at kb kr kn hV1 hV2 hB ⊢
  rw [← ho] at kn
  clear ho
  have b0 : W.cell? ⟨w.heap.size, 0, none⟩ = some (.int .i64 0) := (blk_cell kb 0).trans rfl
  have b1 : W.cell? ⟨w.heap.size, 1, none⟩ = some (.slice Ab nb cb) := (blk_cell kb 1).trans rfl
  have b2 : W.cell? ⟨w.heap.size, 2, none⟩ = some (.string r) := (blk_cell kb 2).trans rfl
  have b3 : W.cell? ⟨w.heap.size, 3, none⟩ = some (.slice Al nl cl) := (blk_cell kb 3).trans rfl
  have b4 : W.cell? ⟨w.heap.size, 4, none⟩ = some (.string sr) := (blk_cell kb 4).trans rfl
  have b5 : W.cell? ⟨w.heap.size, 5, none⟩ = some (.slice As ns cs) := (blk_cell kb 5).trans rfl
  have b6 : W.cell? ⟨w.heap.size, 6, none⟩ = some (.int .i64 e) := (blk_cell kb 6).trans rfl
  have x0 : W.cell? ⟨w1.heap.size, 0, none⟩ = some (.int .u8 T) := (blk_cell kn 0).trans rfl
  have x1 : W.cell? ⟨w1.heap.size, 1, none⟩ = some (.slice A1 m1 c1) := (blk_cell kn 1).trans rfl
  have x2 : W.cell? ⟨w1.heap.size, 2, none⟩ = some (.slice A2 m2 c2) := (blk_cell kn 2).trans rfl
  have r0 := (blk_cell kr 0).trans rfl
  have y0 := blk_frozen kr 0
  have r1 := (blk_cell kr 1).trans rfl
  have y1 := blk_frozen kr 1
  have r2 := (blk_cell kr 2).trans rfl
  have y2 := blk_frozen kr 2
  have PK := Aside0.mk (And.intro (fun (w' : World) (hb : Below W.heap.size W w') => blk_below kr hb) (And.intro (fun (w' : World) (hb : Below W.heap.size W w') => blk_below kb hb) (And.intro (fun (w' : World) (hb : Below W.heap.size W w') => blk_below kn hb) (And.intro hV1 (And.intro hV2 hB)))))
  have PW0 := Aside0.mk (And.intro (Below.refl W.heap.size W) kr)
  have hne : w.heap.size + 1 ≠ w1.heap.size := by omega
  have hne2 := hne.symm
  have hne3 : w.heap.size ≠ w1.heap.size := by omega
  have hne4 := hne3.symm
  clear kb kr kn hV1 hV2 hB P1 hlt
  refine start_ (n := 18) (S := fun w' => w'.cell? ⟨w.heap.size, 0, none⟩ = some (.int .i64 0) ∧ w'.cell? ⟨w.heap.size, 1, none⟩ = some (.slice Ab nb cb) ∧ w'.cell? ⟨w.heap.size, 2, none⟩ = some (.string r) ∧ w'.cell? ⟨w.heap.size, 3, none⟩ = some (.slice Al nl cl) ∧ w'.cell? ⟨w.heap.size, 4, none⟩ = some (.string sr) ∧ w'.cell? ⟨w.heap.size, 5, none⟩ = some (.slice As ns cs) ∧ w'.cell? ⟨w.heap.size, 6, none⟩ = some (.int .i64 e) ∧ w'.cell? ⟨w1.heap.size, 0, none⟩ = some (.int .u8 T) ∧ w'.cell? ⟨w1.heap.size, 1, none⟩ = some (.slice A1 m1 c1) ∧ w'.cell? ⟨w1.heap.size, 2, none⟩ = some (.slice A2 m2 c2)) (ds := []) #[false, false, false, false, false, false, false, false, false, false, false, false, false, false, false, false, false, false] (by kernel_rfl) rfl rfl ⟨b0, b1, b2, b3, b4, b5, b6, x0, x1, x2⟩ (fun hHeld => ?_)
  refine with_tabW st_tab9 st_bits9 (fun HT_ HW_ => ?_)
  refine pure_ (i := 1) (N := some 47) (v := ?_) (a' := ?_) #[false, true, false, false, false, false, false, false, false, false, false, false, false, false, false, false, false, false] rfl rfl (any_of HT_.out (by kernel_rfl)) (fun _ _ _ h => h) (Or.inl ⟨by rfl, ?_⟩) ?_ ?_
  rotate_left
  ·intro w'
   go_simp
   with_reducible rfl
  rotate_left
  ·simp only [Act.put, List.setIfInBounds_toArray, List.set_cons_zero, List.set_cons_succ, i64_w, i32_w]
   rfl
  refine pure_ (i := 2) (N := some 48) (v := ?_) (a' := ?_) #[false, true, true, false, false, false, false, false, false, false, false, false, false, false, false, false, false, false] rfl rfl (any_of HT_.out (by kernel_rfl)) (fun _ _ _ h => h) (Or.inl ⟨by rfl, ?_⟩) ?_ ?_
  rotate_left
  ·intro w'
   go_simp
   with_reducible rfl
  rotate_left
  ·simp only [Act.put, List.setIfInBounds_toArray, List.set_cons_zero, List.set_cons_succ, i64_w, i32_w]
   rfl
  refine take_ (i := 0) (N := some 46) (v := ?_) (a' := ?_) #[true, true, true, false, false, false, false, false, false, false, false, false, false, false, false, false, false, false] rfl rfl (take_ofW HT_.out HW_.out (by kernel_rfl)) (fun _ _ _ h => h) (Or.inl ⟨by rfl, ?_⟩) hHeld ?_ ?_
  rotate_left
  ·rintro w' ⟨s0, s1, s2, s3, s4, s5, s6, s7, s8, s9⟩
   go_simp
   with_reducible rfl
  rotate_left
  ·simp only [Act.put, List.setIfInBounds_toArray, List.set_cons_zero, List.set_cons_succ, i64_w, i32_w]
   rfl
  refine take_ (i := 3) (N := some 49) (v := ?_) (a' := ?_) #[true, true, true, true, false, false, false, false, false, false, false, false, false, false, false, false, false, false] rfl rfl (take_ofW HT_.out HW_.out (by kernel_rfl)) (fun _ _ _ h => h) (Or.inl ⟨by rfl, ?_⟩) hHeld ?_ ?_
  rotate_left
  ·rintro w' ⟨s0, s1, s2, s3, s4, s5, s6, s7, s8, s9⟩
   go_simp
   with_reducible rfl
  rotate_left
  ·simp only [Act.put, List.setIfInBounds_toArray, List.set_cons_zero, List.set_cons_succ, i64_w, i32_w]
   rfl
  refine one_ (i := 4) (N := some 50) #[true, true, true, true, true, false, false, false, false, false, false, false, false, false, false, false, false, false] rfl rfl (one_of HT_.out (by kernel_rfl)) (by decide) (fun K hK => ?_)
  refine goes_ Tryd.func14 (by kernel_rfl) rfl #[.agg #[.int .i64 0, .slice Ab nb cb, .string r, .slice Al nl cl, .string sr, .slice As ns cs, .int .i64 e], .int .u8 105] (by rfl) rfl rfl (by (try simp only [List.map_toArray, List.map_cons, List.map_nil]); first | done | rfl) ?_
  refine (PB.out _).mono ?_
  rintro e' w' ⟨rfl, hb⟩; refine ⟨_, rfl, ?_⟩; have hbW : Below W.heap.size W w' := (below_step (below_drew1 (Below.refl _ _)) hb); have kb2 := PK.out.2.1 w' hbW; have kr2 := PK.out.1 w' hbW; have kn2 := PK.out.2.2.1 w' hbW; have b20 := (blk_cell kb2 0).trans rfl; have b21 := (blk_cell kb2 1).trans rfl; have b22 := (blk_cell kb2 2).trans rfl; have b23 := (blk_cell kb2 3).trans rfl; have b24 := (blk_cell kb2 4).trans rfl; have b25 := (blk_cell kb2 5).trans rfl; have b26 := (blk_cell kb2 6).trans rfl; have x20 := (blk_cell kn2 0).trans rfl; have r20 := (blk_cell kr2 0).trans rfl; have y20 := blk_frozen kr2 0; have x21 := (blk_cell kn2 1).trans rfl; have r21 := (blk_cell kr2 1).trans rfl; have y21 := blk_frozen kr2 1; have x22 := (blk_cell kn2 2).trans rfl; have r22 := (blk_cell kr2 2).trans rfl; have y22 := blk_frozen kr2 2; have PW := Aside0.mk (And.intro hbW kr2); clear hb hbW kb2 kr2 kn2
  refine hK.out _ _ ⟨b20, b21, b22, b23, b24, b25, b26, x20, x21, x22⟩ (fun hHeld => ?_)
  clear hK K
  refine norm_ (a' := ?_) ?_ ?_
  rotate_left
  ·show Act.put _ (some 50) _ = _
   simp only [Act.put, List.setIfInBounds_toArray, List.set_cons_zero, List.set_cons_succ, i64_w, i32_w]
   rfl
  refine pure_ (i := 5) (N := some 51) (v := ?_) (a' := ?_) #[true, true, true, true, true, true, false, false, false, false, false, false, false, false, false, false, false, false] rfl rfl (any_of HT_.out (by kernel_rfl)) (fun _ _ _ h => h) (Or.inl ⟨by rfl, ?_⟩) ?_ ?_
  rotate_left
  ·intro w'
   go_simp
   with_reducible rfl
  rotate_left
  ·simp only [Act.put, List.setIfInBounds_toArray, List.set_cons_zero, List.set_cons_succ, i64_w, i32_w]
   rfl
  refine pure_ (i := 6) (N := some 52) (v := ?_) (a' := ?_) #[true, true, true, true, true, true, true, false, false, false, false, false, false, false, false, false, false, false] rfl rfl (any_of HT_.out (by kernel_rfl)) (fun _ _ _ h => h) (Or.inl ⟨by rfl, ?_⟩) ?_ ?_
  rotate_left
  ·intro w'
   go_simp
   with_reducible rfl
  rotate_left
  ·simp only [Act.put, List.setIfInBounds_toArray, List.set_cons_zero, List.set_cons_succ, i64_w, i32_w]
   rfl
  refine pure_ (i := 7) (N := some 53) (v := ?_) (a' := ?_) #[true, true, true, true, true, true, true, true, false, false, false, false, false, false, false, false, false, false] rfl rfl (any_of HT_.out (by kernel_rfl)) (fun _ _ _ h => h) (Or.inl ⟨by rfl, ?_⟩) ?_ ?_
  rotate_left
  ·intro w'
   go_simp
   with_reducible rfl
  rotate_left
  ·simp only [Act.put, List.setIfInBounds_toArray, List.set_cons_zero, List.set_cons_succ, i64_w, i32_w]
   rfl
  refine take_ (i := 8) (N := some 54) (v := ?_) (a' := ?_) #[true, true, true, true, true, true, true, true, true, false, false, false, false, false, false, false, false, false] rfl rfl (take_ofW HT_.out HW_.out (by kernel_rfl)) (fun _ _ _ h => h) (Or.inl ⟨by rfl, ?_⟩) hHeld ?_ ?_
  rotate_left
  ·rintro w' ⟨s0, s1, s2, s3, s4, s5, s6, s7, s8, s9⟩
   go_simp
   with_reducible rfl
  rotate_left
  ·simp only [Act.put, List.setIfInBounds_toArray, List.set_cons_zero, List.set_cons_succ, i64_w, i32_w]
   rfl
  refine pure_ (i := 9) (N := some 55) (v := ?_) (a' := ?_) #[true, true, true, true, true, true, true, true, true, true, false, false, false, false, false, false, false, false] rfl rfl (any_of HT_.out (by kernel_rfl)) (fun _ _ _ h => h) (Or.inl ⟨by rfl, ?_⟩) ?_ ?_
  rotate_left
  ·intro w'
   go_simp
   with_reducible rfl
  rotate_left
  ·simp only [Act.put, List.setIfInBounds_toArray, List.set_cons_zero, List.set_cons_succ, i64_w, i32_w]
   rfl
  refine pure_ (i := 10) (N := some 56) (v := ?_) (a' := ?_) #[true, true, true, true, true, true, true, true, true, true, true, false, false, false, false, false, false, false] rfl rfl (any_of HT_.out (by kernel_rfl)) (fun _ _ _ h => h) (Or.inl ⟨by rfl, ?_⟩) ?_ ?_
  rotate_left
  ·intro w'
   go_simp
   with_reducible rfl
  rotate_left
  ·simp only [Act.put, List.setIfInBounds_toArray, List.set_cons_zero, List.set_cons_succ, i64_w, i32_w]
   rfl
  refine pure_ (i := 11) (N := some 57) (v := undef) (a' := ?_) #[true, true, true, true, true, true, true, true, true, true, true, true, false, false, false, false, false, false] rfl rfl (any_of HT_.out (by kernel_rfl)) (fun _ _ _ h => h) (Or.inr ⟨by rfl, rfl⟩) ?_ ?_
  rotate_left
  ·simp only [Act.put, List.setIfInBounds_toArray, List.set_cons_zero, List.set_cons_succ, i64_w, i32_w]
   rfl
  refine pure_ (i := 12) (N := some 58) (v := undef) (a' := ?_) #[true, true, true, true, true, true, true, true, true, true, true, true, true, false, false, false, false, false] rfl rfl (any_of HT_.out (by kernel_rfl)) (fun _ _ _ h => h) (Or.inr ⟨by rfl, rfl⟩) ?_ ?_
  rotate_left
  ·simp only [Act.put, List.setIfInBounds_toArray, List.set_cons_zero, List.set_cons_succ, i64_w, i32_w]
   rfl
  refine pure_ (i := 13) (N := some 59) (v := undef) (a' := ?_) #[true, true, true, true, true, true, true, true, true, true, true, true, true, true, false, false, false, false] rfl rfl (any_of HT_.out (by kernel_rfl)) (fun _ _ _ h => h) (Or.inr ⟨by rfl, rfl⟩) ?_ ?_
  rotate_left
  ·simp only [Act.put, List.setIfInBounds_toArray, List.set_cons_zero, List.set_cons_succ, i64_w, i32_w]
   rfl
  refine pure_ (i := 14) (N := some 60) (v := ?_) (a' := ?_) #[true, true, true, true, true, true, true, true, true, true, true, true, true, true, true, false, false, false] rfl rfl (any_of HT_.out (by kernel_rfl)) (fun _ _ _ h => h) (Or.inl ⟨by rfl, ?_⟩) ?_ ?_
  rotate_left
  ·intro w'
   go_simp
   with_reducible rfl
  rotate_left
  ·simp only [Act.put, List.setIfInBounds_toArray, List.set_cons_zero, List.set_cons_succ, i64_w, i32_w]
   rfl
  refine pure_ (i := 15) (N := some 61) (v := ?_) (a' := ?_) #[true, true, true, true, true, true, true, true, true, true, true, true, true, true, true, true, false, false] rfl rfl (any_of HT_.out (by kernel_rfl)) (fun _ _ _ h => h) (Or.inl ⟨by rfl, ?_⟩) ?_ ?_
  rotate_left
  ·intro w'
   go_simp
   with_reducible rfl
  rotate_left
  ·simp only [Act.put, List.setIfInBounds_toArray, List.set_cons_zero, List.set_cons_succ, i64_w, i32_w]
   rfl
  refine one_ (i := 16) (N := none) #[true, true, true, true, true, true, true, true, true, true, true, true, true, true, true, true, true, false] rfl rfl (one_of HT_.out (by kernel_rfl)) (by decide) (fun K hK => ?_)
  refine skip_ (w1 := ?_) (by rfl) rfl ?_ ?_
  rotate_left
  ·go_simp
   rfl
  have kb3 := off3 (PK.out.2.1 w' PW.out.1) (show w.heap.size ≠ w.heap.size + 1 by omega) (.int .u8 T) (.slice A1 m1 c1) (.slice A2 m2 c2)
  have kn3 := off3 (PK.out.2.2.1 w' PW.out.1) hne2 (.int .u8 T) (.slice A1 m1 c1) (.slice A2 m2 c2)
  refine hK.out _ _ ⟨(blk_cell kb3 0).trans rfl, (blk_cell kb3 1).trans rfl, (blk_cell kb3 2).trans rfl, (blk_cell kb3 3).trans rfl, (blk_cell kb3 4).trans rfl, (blk_cell kb3 5).trans rfl, (blk_cell kb3 6).trans rfl, (blk_cell kn3 0).trans rfl, (blk_cell kn3 1).trans rfl, (blk_cell kn3 2).trans rfl⟩ (fun hHeld => ?_)
  clear hK K kb3 kn3
  refine pure_ (i := 17) (N := some 5) (v := ?_) (a' := ?_) #[true, true, true, true, true, true, true, true, true, true, true, true, true, true, true, true, true, true] rfl rfl (any_of HT_.out (by kernel_rfl)) (fun _ _ _ h => h) (Or.inl ⟨by rfl, ?_⟩) ?_ ?_
  rotate_left
  ·intro w'
   go_simp
   with_reducible rfl
  rotate_left
  ·simp only [Act.put, List.setIfInBounds_toArray, List.set_cons_zero, List.set_cons_succ, i64_w, i32_w]
   rfl
  refine done_ (done_of HT_.out (by kernel_rfl)) ?_
  go_wp2
  have kf := put3 PW.out.2 (.int .u8 T) (.slice A1 m1 c1) (.slice A2 m2 c2)
  refine bodyPost_ret (results_ct rfl _ _ (w.heap.size + 1) 45 #[.int .u8 T, .slice A1 m1 c1, .slice A2 m2 c2] (0, 0) _ rfl (by first | exact kf | exact blk_drew kf) Tryd.underlying45 rfl (by kernel_rfl)) rfl ?_
  have hk1 : ∀ k, (start3 w #[.int .i64 0, .slice Ab nb cb, .string r, .slice Al nl cl, .string sr, .slice As ns cs, .int .i64 e]).heap.size ≤ k → k ≠ w.heap.size + 1 := fun k hk => by rw [start3_size] at hk; omega
  have hk2 : ∀ k, (start3 w #[.int .i64 0, .slice Ab nb cb, .string r, .slice Al nl cl, .string sr, .slice As ns cs, .int .i64 e]).heap.size ≤ k → w.heap.size ≤ k := fun k hk => by rw [start3_size] at hk; omega
  have q1 := far3 (Kd.V_below PK.out.2.2.2.1 PW.out.1) hk1 (.int .u8 T) (.slice A1 m1 c1) (.slice A2 m2 c2)
  have q2 := far3 (Kd.V_below PK.out.2.2.2.2.1 PW.out.1) hk1 (.int .u8 T) (.slice A1 m1 c1) (.slice A2 m2 c2)
  have q3 := set3 (below_step PK.out.2.2.2.2.2 PW.out.1) (Nat.le_succ w.heap.size) (.int .u8 T) (.slice A1 m1 c1) (.slice A2 m2 c2)
  exact ⟨_, _, rfl, by first | exact Kd.V_mono q1 hk2 | exact Kd.V_drew (Kd.V_mono q1 hk2), by first | exact Kd.V_mono q2 hk2 | exact Kd.V_drew (Kd.V_mono q2 hk2), by first | exact q3 | exact below_drew1 q3⟩
 ·skip
  subst hP h1
  have hr : (true && (decide ((1 : Int) = 0) || decide ((1 : Int) = 1))) = true := rfl
  rw [hr]
  clear hr
  go_enter Tryd.func9, Tryd.ntmps9
  go_wp2_with (go_at_call 13; refine (PN.out _ (start3_below w #[.int .i64 1, .slice Ab nb cb, .string r, .slice Al nl cl, .string sr, .slice As ns cs, .int .i64 e])).mono ?_; rintro e' w1 ⟨v1, v2, rfl, hV1, hV2, hb⟩; obtain ⟨A1, c1, rfl⟩ := Kd.V_slice hV1; obtain ⟨A2, c2, rfl⟩ := Kd.V_slice hV2; generalize hm1 : body.length = m1 at hV1 ⊢; generalize hm2 : kids.length = m2 at hV2 ⊢; have P1 := Aside0.mk (And.intro hV1 (And.intro hV2 hb)); clear hV1 hV2 hb hm1 hm2)
  obtain ⟨o, ho⟩ : ∃ o, Obj.cells #[.int .u8 T, .slice A1 m1 c1, .slice A2 m2 c2] 45 = o := ⟨_, rfl⟩
  have kb := blk_alloc (blk_below (start3_0 w #[.int .i64 1, .slice Ab nb cb, .string r, .slice Al nl cl, .string sr, .slice As ns cs, .int .i64 e]) P1.out.2.2) o
  have kr := blk_alloc (blk_below (start3_1 w #[.int .i64 1, .slice Ab nb cb, .string r, .slice Al nl cl, .string sr, .slice As ns cs, .int .i64 e]) P1.out.2.2) o
  have kn := blk_new w1 o
  have hlt : w.heap.size + 2 < w1.heap.size := blk_lt (blk_below (start3_2 w #[.int .i64 1, .slice Ab nb cb, .string r, .slice Al nl cl, .string sr, .slice As ns cs, .int .i64 e]) P1.out.2.2)
  have hV1 := Kd.V_alloc P1.out.1 o
  have hV2 := Kd.V_alloc P1.out.2.1 o
  have hB := below_alloc (below_step (start3_below w #[.int .i64 1, .slice Ab nb cb, .string r, .slice Al nl cl, .string sr, .slice As ns cs, .int .i64 e]) P1.out.2.2) o
  rw [ho]
  generalize w1.alloc o = W at kb kr kn hV1 hV2 hB ⊢
  rw [← ho] at kn
  clear ho
  have b0 : W.cell? ⟨w.heap.size, 0, none⟩ = some (.int .i64 1) := (blk_cell kb 0).trans rfl
  have b1 : W.cell? ⟨w.heap.size, 1, none⟩ = some (.slice Ab nb cb) := (blk_cell kb 1).trans rfl
  have b2 : W.cell? ⟨w.heap.size, 2, none⟩ = some (.string r) := (blk_cell kb 2).trans rfl
  have b3 : W.cell? ⟨w.heap.size, 3, none⟩ = some (.slice Al nl cl) := (blk_cell kb 3).trans rfl
  have b4 : W.cell? ⟨w.heap.size, 4, none⟩ = some (.string sr) := (blk_cell kb 4).trans rfl
  have b5 : W.cell? ⟨w.heap.size, 5, none⟩ = some (.slice As ns cs) := (blk_cell kb 5).trans rfl
  have b6 : W.cell? ⟨w.heap.size, 6, none⟩ = some (.int .i64 e) := (blk_cell kb 6).trans rfl
  have x0 : W.cell? ⟨w1.heap.size, 0, none⟩ = some (.int .u8 T) := (blk_cell kn 0).trans rfl
  have x1 : W.cell? ⟨w1.heap.size, 1, none⟩ = some (.slice A1 m1 c1) := (blk_cell kn 1).trans rfl
  have x2 : W.cell? ⟨w1.heap.size, 2, none⟩ = some (.slice A2 m2 c2) := (blk_cell kn 2).trans rfl
  have r0 := (blk_cell kr 0).trans rfl
  have y0 := blk_frozen kr 0
  have r1 := (blk_cell kr 1).trans rfl
  have y1 := blk_frozen kr 1
  have r2 := (blk_cell kr 2).trans rfl
  have y2 := blk_frozen kr 2
  have PK := Aside0.mk (And.intro (fun (w' : World) (hb : Below W.heap.size W w') => blk_below kr hb) (And.intro (fun (w' : World) (hb : Below W.heap.size W w') => blk_below kb hb) (And.intro (fun (w' : World) (hb : Below W.heap.size W w') => blk_below kn hb) (And.intro hV1 (And.intro hV2 hB)))))
  have PW0 := Aside0.mk (And.intro (Below.refl W.heap.size W) kr)
  have hne : w.heap.size + 1 ≠ w1.heap.size := by omega
  have hne2 := hne.symm
  have hne3 : w.heap.size ≠ w1.heap.size := by omega
  have hne4 := hne3.symm
  clear kb kr kn hV1 hV2 hB P1 hlt
  refine start_ (n := 18) (S := fun w' => w'.cell? ⟨w.heap.size, 0, none⟩ = some (.int .i64 1) ∧ w'.cell? ⟨w.heap.size, 1, none⟩ = some (.slice Ab nb cb) ∧ w'.cell? ⟨w.heap.size, 2, none⟩ = some (.string r) ∧ w'.cell? ⟨w.heap.size, 3, none⟩ = some (.slice Al nl cl) ∧ w'.cell? ⟨w.heap.size, 4, none⟩ = some (.string sr) ∧ w'.cell? ⟨w.heap.size, 5, none⟩ = some (.slice As ns cs) ∧ w'.cell? ⟨w.heap.size, 6, none⟩ = some (.int .i64 e) ∧ w'.cell? ⟨w1.heap.size, 0, none⟩ = some (.int .u8 T) ∧ w'.cell? ⟨w1.heap.size, 1, none⟩ = some (.slice A1 m1 c1) ∧ w'.cell? ⟨w1.heap.size, 2, none⟩ = some (.slice A2 m2 c2)) (ds := []) #[false, false, false, false, false, false, false, false, false, false, false, false, false, false, false, false, false, false] (by kernel_rfl) rfl rfl ⟨b0, b1, b2, b3, b4, b5, b6, x0, x1, x2⟩ (fun hHeld => ?_)
  refine with_tabW st_tab9 st_bits9 (fun HT_ HW_ => ?_)
  refine pure_ (i := 1) (N := some 47) (v := ?_) (a' := ?_) #[false, true, false, false, false, false, false, false, false, false, false, false, false, false, false, false, false, false] rfl rfl (any_of HT_.out (by kernel_rfl)) (fun _ _ _ h => h) (Or.inl ⟨by rfl, ?_⟩) ?_ ?_
  rotate_left
  ·intro w'
   go_simp
   with_reducible rfl
  rotate_left
  ·simp only [Act.put, List.setIfInBounds_toArray, List.set_cons_zero, List.set_cons_succ, i64_w, i32_w]
   rfl
  refine pure_ (i := 2) (N := some 48) (v := ?_) (a' := ?_) #[false, true, true, false, false, false, false, false, false, false, false, false, false, false, false, false, false, false] rfl rfl (any_of HT_.out (by kernel_rfl)) (fun _ _ _ h => h) (Or.inl ⟨by rfl, ?_⟩) ?_ ?_
  rotate_left
  ·intro w'
   go_simp
   with_reducible rfl
  rotate_left
  ·simp only [Act.put, List.setIfInBounds_toArray, List.set_cons_zero, List.set_cons_succ, i64_w, i32_w]
   rfl
  refine take_ (i := 0) (N := some 46) (v := ?_) (a' := ?_) #[true, true, true, false, false, false, false, false, false, false, false, false, false, false, false, false, false, false] rfl rfl (take_ofW HT_.out HW_.out (by kernel_rfl)) (fun _ _ _ h => h) (Or.inl ⟨by rfl, ?_⟩) hHeld ?_ ?_
  rotate_left
  ·rintro w' ⟨s0, s1, s2, s3, s4, s5, s6, s7, s8, s9⟩
   go_simp
   with_reducible rfl
  rotate_left
  ·simp only [Act.put, List.setIfInBounds_toArray, List.set_cons_zero, List.set_cons_succ, i64_w, i32_w]
   rfl
  refine take_ (i := 3) (N := some 49) (v := ?_) (a' := ?_) #[true, true, true, true, false, false, false, false, false, false, false, false, false, false, false, false, false, false] rfl rfl (take_ofW HT_.out HW_.out (by kernel_rfl)) (fun _ _ _ h => h) (Or.inl ⟨by rfl, ?_⟩) hHeld ?_ ?_
  rotate_left
  ·rintro w' ⟨s0, s1, s2, s3, s4, s5, s6, s7, s8, s9⟩
   go_simp
   with_reducible rfl
  rotate_left
  ·simp only [Act.put, List.setIfInBounds_toArray, List.set_cons_zero, List.set_cons_succ, i64_w, i32_w]
   rfl
  refine one_ (i := 4) (N := some 50) #[true, true, true, true, true, false, false, false, false, false, false, false, false, false, false, false, false, false] rfl rfl (one_of HT_.out (by kernel_rfl)) (by decide) (fun K hK => ?_)
  refine goes_ Tryd.func14 (by kernel_rfl) rfl #[.agg #[.int .i64 1, .slice Ab nb cb, .string r, .slice Al nl cl, .string sr, .slice As ns cs, .int .i64 e], .int .u8 105] (by rfl) rfl rfl (by (try simp only [List.map_toArray, List.map_cons, List.map_nil]); first | done | rfl) ?_
  refine (PB.out _).mono ?_
  rintro e' w' ⟨rfl, hb⟩; refine ⟨_, rfl, ?_⟩; have hbW : Below W.heap.size W w' := (below_step (below_drew1 (Below.refl _ _)) hb); have kb2 := PK.out.2.1 w' hbW; have kr2 := PK.out.1 w' hbW; have kn2 := PK.out.2.2.1 w' hbW; have b20 := (blk_cell kb2 0).trans rfl; have b21 := (blk_cell kb2 1).trans rfl; have b22 := (blk_cell kb2 2).trans rfl; have b23 := (blk_cell kb2 3).trans rfl; have b24 := (blk_cell kb2 4).trans rfl; have b25 := (blk_cell kb2 5).trans rfl; have b26 := (blk_cell kb2 6).trans rfl; have x20 := (blk_cell kn2 0).trans rfl; have r20 := (blk_cell kr2 0).trans rfl; have y20 := blk_frozen kr2 0; have x21 := (blk_cell kn2 1).trans rfl; have r21 := (blk_cell kr2 1).trans rfl; have y21 := blk_frozen kr2 1; have x22 := (blk_cell kn2 2).trans rfl; have r22 := (blk_cell kr2 2).trans rfl; have y22 := blk_frozen kr2 2; have PW := Aside0.mk (And.intro hbW kr2); clear hb hbW kb2 kr2 kn2
  refine hK.out _ _ ⟨b20, b21, b22, b23, b24, b25, b26, x20, x21, x22⟩ (fun hHeld => ?_)
  clear hK K
  refine norm_ (a' := ?_) ?_ ?_
  rotate_left
  ·show Act.put _ (some 50) _ = _
   simp only [Act.put, List.setIfInBounds_toArray, List.set_cons_zero, List.set_cons_succ, i64_w, i32_w]
   rfl
  refine pure_ (i := 5) (N := some 51) (v := ?_) (a' := ?_) #[true, true, true, true, true, true, false, false, false, false, false, false, false, false, false, false, false, false] rfl rfl (any_of HT_.out (by kernel_rfl)) (fun _ _ _ h => h) (Or.inl ⟨by rfl, ?_⟩) ?_ ?_
  rotate_left
  ·intro w'
   go_simp
   with_reducible rfl
  rotate_left
  ·simp only [Act.put, List.setIfInBounds_toArray, List.set_cons_zero, List.set_cons_succ, i64_w, i32_w]
   rfl
  refine pure_ (i := 6) (N := some 52) (v := ?_) (a' := ?_) #[true, true, true, true, true, true, true, false, false, false, false, false, false, false, false, false, false, false] rfl rfl (any_of HT_.out (by kernel_rfl)) (fun _ _ _ h => h) (Or.inl ⟨by rfl, ?_⟩) ?_ ?_
  rotate_left
  ·intro w'
   go_simp
   with_reducible rfl
  rotate_left
  ·simp only [Act.put, List.setIfInBounds_toArray, List.set_cons_zero, List.set_cons_succ, i64_w, i32_w]
   rfl
  refine pure_ (i := 7) (N := some 53) (v := ?_) (a' := ?_) #[true, true, true, true, true, true, true, true, false, false, false, false, false, false, false, false, false, false] rfl rfl (any_of HT_.out (by kernel_rfl)) (fun _ _ _ h => h) (Or.inl ⟨by rfl, ?_⟩) ?_ ?_
  rotate_left
  ·intro w'
   go_simp
   with_reducible rfl
  rotate_left
  ·simp only [Act.put, List.setIfInBounds_toArray, List.set_cons_zero, List.set_cons_succ, i64_w, i32_w]
   rfl
  refine take_ (i := 8) (N := some 54) (v := ?_) (a' := ?_) #[true, true, true, true, true, true, true, true, true, false, false, false, false, false, false, false, false, false] rfl rfl (take_ofW HT_.out HW_.out (by kernel_rfl)) (fun _ _ _ h => h) (Or.inl ⟨by rfl, ?_⟩) hHeld ?_ ?_
  rotate_left
  ·rintro w' ⟨s0, s1, s2, s3, s4, s5, s6, s7, s8, s9⟩
   go_simp
   with_reducible rfl
  rotate_left
  ·simp only [Act.put, List.setIfInBounds_toArray, List.set_cons_zero, List.set_cons_succ, i64_w, i32_w]
   rfl
  refine pure_ (i := 9) (N := some 55) (v := ?_) (a' := ?_) #[true, true, true, true, true, true, true, true, true, true, false, false, false, false, false, false, false, false] rfl rfl (any_of HT_.out (by kernel_rfl)) (fun _ _ _ h => h) (Or.inl ⟨by rfl, ?_⟩) ?_ ?_
  rotate_left
  ·intro w'
   go_simp
   with_reducible rfl
  rotate_left
  ·simp only [Act.put, List.setIfInBounds_toArray, List.set_cons_zero, List.set_cons_succ, i64_w, i32_w]
   rfl
  refine pure_ (i := 10) (N := some 56) (v := ?_) (a' := ?_) #[true, true, true, true, true, true, true, true, true, true, true, false, false, false, false, false, false, false] rfl rfl (any_of HT_.out (by kernel_rfl)) (fun _ _ _ h => h) (Or.inl ⟨by rfl, ?_⟩) ?_ ?_
  rotate_left
  ·intro w'
   go_simp
   with_reducible rfl
  rotate_left
  ·simp only [Act.put, List.setIfInBounds_toArray, List.set_cons_zero, List.set_cons_succ, i64_w, i32_w]
   rfl
  refine pure_ (i := 11) (N := some 57) (v := ?_) (a' := ?_) #[true, true, true, true, true, true, true, true, true, true, true, true, false, false, false, false, false, false] rfl rfl (any_of HT_.out (by kernel_rfl)) (fun _ _ _ h => h) (Or.inl ⟨by rfl, ?_⟩) ?_ ?_
  rotate_left
  ·intro w'
   go_simp
   with_reducible rfl
  rotate_left
  ·simp only [Act.put, List.setIfInBounds_toArray, List.set_cons_zero, List.set_cons_succ, i64_w, i32_w]
   rfl
  refine take_ (i := 12) (N := some 58) (v := ?_) (a' := ?_) #[true, true, true, true, true, true, true, true, true, true, true, true, true, false, false, false, false, false] rfl rfl (take_ofW HT_.out HW_.out (by kernel_rfl)) (fun _ _ _ h => h) (Or.inl ⟨by rfl, ?_⟩) hHeld ?_ ?_
  rotate_left
  ·rintro w' ⟨s0, s1, s2, s3, s4, s5, s6, s7, s8, s9⟩
   go_simp
   with_reducible rfl
  rotate_left
  ·simp only [Act.put, List.setIfInBounds_toArray, List.set_cons_zero, List.set_cons_succ, i64_w, i32_w]
   rfl
  refine pure_ (i := 13) (N := some 59) (v := ?_) (a' := ?_) #[true, true, true, true, true, true, true, true, true, true, true, true, true, true, false, false, false, false] rfl rfl (any_of HT_.out (by kernel_rfl)) (fun _ _ _ h => h) (Or.inl ⟨by rfl, ?_⟩) ?_ ?_
  rotate_left
  ·intro w'
   go_simp
   with_reducible rfl
  rotate_left
  ·simp only [Act.put, List.setIfInBounds_toArray, List.set_cons_zero, List.set_cons_succ, i64_w, i32_w]
   rfl
  refine pure_ (i := 14) (N := some 60) (v := ?_) (a' := ?_) #[true, true, true, true, true, true, true, true, true, true, true, true, true, true, true, false, false, false] rfl rfl (any_of HT_.out (by kernel_rfl)) (fun _ _ _ h => h) (Or.inl ⟨by rfl, ?_⟩) ?_ ?_
  rotate_left
  ·intro w'
   go_simp
   with_reducible rfl
  rotate_left
  ·simp only [Act.put, List.setIfInBounds_toArray, List.set_cons_zero, List.set_cons_succ, i64_w, i32_w]
   rfl
  refine pure_ (i := 15) (N := some 61) (v := ?_) (a' := ?_) #[true, true, true, true, true, true, true, true, true, true, true, true, true, true, true, true, false, false] rfl rfl (any_of HT_.out (by kernel_rfl)) (fun _ _ _ h => h) (Or.inl ⟨by rfl, ?_⟩) ?_ ?_
  rotate_left
  ·intro w'
   go_simp
   with_reducible rfl
  rotate_left
  ·simp only [Act.put, List.setIfInBounds_toArray, List.set_cons_zero, List.set_cons_succ, i64_w, i32_w]
   rfl
  refine one_ (i := 16) (N := none) #[true, true, true, true, true, true, true, true, true, true, true, true, true, true, true, true, true, false] rfl rfl (one_of HT_.out (by kernel_rfl)) (by decide) (fun K hK => ?_)
  refine skip_ (w1 := ?_) (by rfl) rfl ?_ ?_
  rotate_left
  ·go_simp
   rfl
  have kb3 := off3 (PK.out.2.1 w' PW.out.1) (show w.heap.size ≠ w.heap.size + 1 by omega) (.int .u8 T) (.slice A1 m1 c1) (.slice A2 m2 c2)
  have kn3 := off3 (PK.out.2.2.1 w' PW.out.1) hne2 (.int .u8 T) (.slice A1 m1 c1) (.slice A2 m2 c2)
  refine hK.out _ _ ⟨(blk_cell kb3 0).trans rfl, (blk_cell kb3 1).trans rfl, (blk_cell kb3 2).trans rfl, (blk_cell kb3 3).trans rfl, (blk_cell kb3 4).trans rfl, (blk_cell kb3 5).trans rfl, (blk_cell kb3 6).trans rfl, (blk_cell kn3 0).trans rfl, (blk_cell kn3 1).trans rfl, (blk_cell kn3 2).trans rfl⟩ (fun hHeld => ?_)
  clear hK K kb3 kn3
  refine pure_ (i := 17) (N := some 5) (v := ?_) (a' := ?_) #[true, true, true, true, true, true, true, true, true, true, true, true, true, true, true, true, true, true] rfl rfl (any_of HT_.out (by kernel_rfl)) (fun _ _ _ h => h) (Or.inl ⟨by rfl, ?_⟩) ?_ ?_
  rotate_left
  ·intro w'
   go_simp
   with_reducible rfl
  rotate_left
  ·simp only [Act.put, List.setIfInBounds_toArray, List.set_cons_zero, List.set_cons_succ, i64_w, i32_w]
   rfl
  refine done_ (done_of HT_.out (by kernel_rfl)) ?_
  go_wp2
  have kf := put3 PW.out.2 (.int .u8 T) (.slice A1 m1 c1) (.slice A2 m2 c2)
  refine bodyPost_ret (results_ct rfl _ _ (w.heap.size + 1) 45 #[.int .u8 T, .slice A1 m1 c1, .slice A2 m2 c2] (0, 0) _ rfl (by first | exact kf | exact blk_drew kf) Tryd.underlying45 rfl (by kernel_rfl)) rfl ?_
  have hk1 : ∀ k, (start3 w #[.int .i64 1, .slice Ab nb cb, .string r, .slice Al nl cl, .string sr, .slice As ns cs, .int .i64 e]).heap.size ≤ k → k ≠ w.heap.size + 1 := fun k hk => by rw [start3_size] at hk; omega
  have hk2 : ∀ k, (start3 w #[.int .i64 1, .slice Ab nb cb, .string r, .slice Al nl cl, .string sr, .slice As ns cs, .int .i64 e]).heap.size ≤ k → w.heap.size ≤ k := fun k hk => by rw [start3_size] at hk; omega
  have q1 := far3 (Kd.V_below PK.out.2.2.2.1 PW.out.1) hk1 (.int .u8 T) (.slice A1 m1 c1) (.slice A2 m2 c2)
  have q2 := far3 (Kd.V_below PK.out.2.2.2.2.1 PW.out.1) hk1 (.int .u8 T) (.slice A1 m1 c1) (.slice A2 m2 c2)
  have q3 := set3 (below_step PK.out.2.2.2.2.2 PW.out.1) (Nat.le_succ w.heap.size) (.int .u8 T) (.slice A1 m1 c1) (.slice A2 m2 c2)
  exact ⟨_, _, rfl, by first | exact Kd.V_mono q1 hk2 | exact Kd.V_drew (Kd.V_mono q1 hk2), by first | exact Kd.V_mono q2 hk2 | exact Kd.V_drew (Kd.V_mono q2 hk2), by first | exact q3 | exact below_drew1 q3⟩
 ·skip
  subst hP
  have hr : (true && (decide (i = 0) || decide (i = 1))) = false := by rw [decide_eq_false h0, decide_eq_false h1]; rfl
  rw [hr]
  have e0 : (i == 0) = false := beq_eq_false_iff_ne.mpr h0
  have e1 : (i == 1) = false := beq_eq_false_iff_ne.mpr h1
  rw [e1] at PN
  clear hr h0 h1
  go_enter Tryd.func9, Tryd.ntmps9
  go_wp2_with (go_at_call 13; refine (PN.out _ (start3_below w #[.int .i64 i, .slice Ab nb cb, .string r, .slice Al nl cl, .string sr, .slice As ns cs, .int .i64 e])).mono ?_; rintro e' w1 ⟨v1, v2, rfl, hV1, hV2, hb⟩; obtain ⟨A1, c1, rfl⟩ := Kd.V_slice hV1; obtain ⟨A2, c2, rfl⟩ := Kd.V_slice hV2; generalize hm1 : body.length = m1 at hV1 ⊢; generalize hm2 : kids.length = m2 at hV2 ⊢; have P1 := Aside0.mk (And.intro hV1 (And.intro hV2 hb)); clear hV1 hV2 hb hm1 hm2)
  obtain ⟨o, ho⟩ : ∃ o, Obj.cells #[.int .u8 T, .slice A1 m1 c1, .slice A2 m2 c2] 45 = o := ⟨_, rfl⟩
  have kb := blk_alloc (blk_below (start3_0 w #[.int .i64 i, .slice Ab nb cb, .string r, .slice Al nl cl, .string sr, .slice As ns cs, .int .i64 e]) P1.out.2.2) o
  have kr := blk_alloc (blk_below (start3_1 w #[.int .i64 i, .slice Ab nb cb, .string r, .slice Al nl cl, .string sr, .slice As ns cs, .int .i64 e]) P1.out.2.2) o
  have kn := blk_new w1 o
  have hlt : w.heap.size + 2 < w1.heap.size := blk_lt (blk_below (start3_2 w #[.int .i64 i, .slice Ab nb cb, .string r, .slice Al nl cl, .string sr, .slice As ns cs, .int .i64 e]) P1.out.2.2)
  have hV1 := Kd.V_alloc P1.out.1 o
  have hV2 := Kd.V_alloc P1.out.2.1 o
  have hB := below_alloc (below_step (start3_below w #[.int .i64 i, .slice Ab nb cb, .string r, .slice Al nl cl, .string sr, .slice As ns cs, .int .i64 e]) P1.out.2.2) o
  rw [ho]
  generalize w1.alloc o = W at kb kr kn hV1 hV2 hB ⊢
  rw [← ho] at kn
  clear ho
  have b0 : W.cell? ⟨w.heap.size, 0, none⟩ = some (.int .i64 i) := (blk_cell kb 0).trans rfl
  have b1 : W.cell? ⟨w.heap.size, 1, none⟩ = some (.slice Ab nb cb) := (blk_cell kb 1).trans rfl
  have b2 : W.cell? ⟨w.heap.size, 2, none⟩ = some (.string r) := (blk_cell kb 2).trans rfl
  have b3 : W.cell? ⟨w.heap.size, 3, none⟩ = some (.slice Al nl cl) := (blk_cell kb 3).trans rfl
  have b4 : W.cell? ⟨w.heap.size, 4, none⟩ = some (.string sr) := (blk_cell kb 4).trans rfl
  have b5 : W.cell? ⟨w.heap.size, 5, none⟩ = some (.slice As ns cs) := (blk_cell kb 5).trans rfl
  have b6 : W.cell? ⟨w.heap.size, 6, none⟩ = some (.int .i64 e) := (blk_cell kb 6).trans rfl
  have x0 : W.cell? ⟨w1.heap.size, 0, none⟩ = some (.int .u8 T) := (blk_cell kn 0).trans rfl
  have x1 : W.cell? ⟨w1.heap.size, 1, none⟩ = some (.slice A1 m1 c1) := (blk_cell kn 1).trans rfl
  have x2 : W.cell? ⟨w1.heap.size, 2, none⟩ = some (.slice A2 m2 c2) := (blk_cell kn 2).trans rfl
  have r0 := (blk_cell kr 0).trans rfl
  have y0 := blk_frozen kr 0
  have r1 := (blk_cell kr 1).trans rfl
  have y1 := blk_frozen kr 1
  have r2 := (blk_cell kr 2).trans rfl
  have y2 := blk_frozen kr 2
  have PK := Aside0.mk (And.intro (fun (w' : World) (hb : Below W.heap.size W w') => blk_below kr hb) (And.intro (fun (w' : World) (hb : Below W.heap.size W w') => blk_below kb hb) (And.intro (fun (w' : World) (hb : Below W.heap.size W w') => blk_below kn hb) (And.intro hV1 (And.intro hV2 hB)))))
  have PW0 := Aside0.mk (And.intro (Below.refl W.heap.size W) kr)
  have hne : w.heap.size + 1 ≠ w1.heap.size := by omega
  have hne2 := hne.symm
  have hne3 : w.heap.size ≠ w1.heap.size := by omega
  have hne4 := hne3.symm
  clear kb kr kn hV1 hV2 hB P1 hlt
  refine start_ (n := 18) (S := fun w' => w'.cell? ⟨w.heap.size, 0, none⟩ = some (.int .i64 i) ∧ w'.cell? ⟨w.heap.size, 1, none⟩ = some (.slice Ab nb cb) ∧ w'.cell? ⟨w.heap.size, 2, none⟩ = some (.string r) ∧ w'.cell? ⟨w.heap.size, 3, none⟩ = some (.slice Al nl cl) ∧ w'.cell? ⟨w.heap.size, 4, none⟩ = some (.string sr) ∧ w'.cell? ⟨w.heap.size, 5, none⟩ = some (.slice As ns cs) ∧ w'.cell? ⟨w.heap.size, 6, none⟩ = some (.int .i64 e) ∧ w'.cell? ⟨w1.heap.size, 0, none⟩ = some (.int .u8 T) ∧ w'.cell? ⟨w1.heap.size, 1, none⟩ = some (.slice A1 m1 c1) ∧ w'.cell? ⟨w1.heap.size, 2, none⟩ = some (.slice A2 m2 c2)) (ds := []) #[false, false, false, false, false, false, false, false, false, false, false, false, false, false, false, false, false, false] (by kernel_rfl) rfl rfl ⟨b0, b1, b2, b3, b4, b5, b6, x0, x1, x2⟩ (fun hHeld => ?_)
  refine with_tabW st_tab9 st_bits9 (fun HT_ HW_ => ?_)
  refine pure_ (i := 1) (N := some 47) (v := ?_) (a' := ?_) #[false, true, false, false, false, false, false, false, false, false, false, false, false, false, false, false, false, false] rfl rfl (any_of HT_.out (by kernel_rfl)) (fun _ _ _ h => h) (Or.inl ⟨by rfl, ?_⟩) ?_ ?_
  rotate_left
  ·intro w'
   go_simp
   with_reducible rfl
  rotate_left
  ·simp only [Act.put, List.setIfInBounds_toArray, List.set_cons_zero, List.set_cons_succ, i64_w, i32_w]
   rfl
  refine pure_ (i := 2) (N := some 48) (v := ?_) (a' := ?_) #[false, true, true, false, false, false, false, false, false, false, false, false, false, false, false, false, false, false] rfl rfl (any_of HT_.out (by kernel_rfl)) (fun _ _ _ h => h) (Or.inl ⟨by rfl, ?_⟩) ?_ ?_
  rotate_left
  ·intro w'
   go_simp
   with_reducible rfl
  rotate_left
  ·simp only [Act.put, List.setIfInBounds_toArray, List.set_cons_zero, List.set_cons_succ, i64_w, i32_w]
   rfl
  refine take_ (i := 0) (N := some 46) (v := ?_) (a' := ?_) #[true, true, true, false, false, false, false, false, false, false, false, false, false, false, false, false, false, false] rfl rfl (take_ofW HT_.out HW_.out (by kernel_rfl)) (fun _ _ _ h => h) (Or.inl ⟨by rfl, ?_⟩) hHeld ?_ ?_
  rotate_left
  ·rintro w' ⟨s0, s1, s2, s3, s4, s5, s6, s7, s8, s9⟩
   go_simp
   with_reducible rfl
  rotate_left
  ·simp only [Act.put, List.setIfInBounds_toArray, List.set_cons_zero, List.set_cons_succ, i64_w, i32_w]
   rfl
  refine take_ (i := 3) (N := some 49) (v := ?_) (a' := ?_) #[true, true, true, true, false, false, false, false, false, false, false, false, false, false, false, false, false, false] rfl rfl (take_ofW HT_.out HW_.out (by kernel_rfl)) (fun _ _ _ h => h) (Or.inl ⟨by rfl, ?_⟩) hHeld ?_ ?_
  rotate_left
  ·rintro w' ⟨s0, s1, s2, s3, s4, s5, s6, s7, s8, s9⟩
   go_simp
   with_reducible rfl
  rotate_left
  ·simp only [Act.put, List.setIfInBounds_toArray, List.set_cons_zero, List.set_cons_succ, i64_w, i32_w]
   rfl
  refine one_ (i := 4) (N := some 50) #[true, true, true, true, true, false, false, false, false, false, false, false, false, false, false, false, false, false] rfl rfl (one_of HT_.out (by kernel_rfl)) (by decide) (fun K hK => ?_)
  refine goes_ Tryd.func14 (by kernel_rfl) rfl #[.agg #[.int .i64 i, .slice Ab nb cb, .string r, .slice Al nl cl, .string sr, .slice As ns cs, .int .i64 e], .int .u8 105] (by rfl) rfl rfl (by (try simp only [List.map_toArray, List.map_cons, List.map_nil]); first | done | rfl) ?_
  refine (PB.out _).mono ?_
  rintro e' w' ⟨rfl, hb⟩; refine ⟨_, rfl, ?_⟩; have hbW : Below W.heap.size W w' := (below_step (below_drew1 (Below.refl _ _)) hb); have kb2 := PK.out.2.1 w' hbW; have kr2 := PK.out.1 w' hbW; have kn2 := PK.out.2.2.1 w' hbW; have b20 := (blk_cell kb2 0).trans rfl; have b21 := (blk_cell kb2 1).trans rfl; have b22 := (blk_cell kb2 2).trans rfl; have b23 := (blk_cell kb2 3).trans rfl; have b24 := (blk_cell kb2 4).trans rfl; have b25 := (blk_cell kb2 5).trans rfl; have b26 := (blk_cell kb2 6).trans rfl; have x20 := (blk_cell kn2 0).trans rfl; have r20 := (blk_cell kr2 0).trans rfl; have y20 := blk_frozen kr2 0; have x21 := (blk_cell kn2 1).trans rfl; have r21 := (blk_cell kr2 1).trans rfl; have y21 := blk_frozen kr2 1; have x22 := (blk_cell kn2 2).trans rfl; have r22 := (blk_cell kr2 2).trans rfl; have y22 := blk_frozen kr2 2; have PW := Aside0.mk (And.intro hbW kr2); clear hb hbW kb2 kr2 kn2
  refine hK.out _ _ ⟨b20, b21, b22, b23, b24, b25, b26, x20, x21, x22⟩ (fun hHeld => ?_)
  clear hK K
  refine norm_ (a' := ?_) ?_ ?_
  rotate_left
  ·show Act.put _ (some 50) _ = _
   simp only [Act.put, List.setIfInBounds_toArray, List.set_cons_zero, List.set_cons_succ, i64_w, i32_w]
   rfl
  refine pure_ (i := 5) (N := some 51) (v := ?_) (a' := ?_) #[true, true, true, true, true, true, false, false, false, false, false, false, false, false, false, false, false, false] rfl rfl (any_of HT_.out (by kernel_rfl)) (fun _ _ _ h => h) (Or.inl ⟨by rfl, ?_⟩) ?_ ?_
  rotate_left
  ·intro w'
   go_simp
   with_reducible rfl
  rotate_left
  ·simp only [Act.put, List.setIfInBounds_toArray, List.set_cons_zero, List.set_cons_succ, i64_w, i32_w]
   rfl
  refine pure_ (i := 6) (N := some 52) (v := ?_) (a' := ?_) #[true, true, true, true, true, true, true, false, false, false, false, false, false, false, false, false, false, false] rfl rfl (any_of HT_.out (by kernel_rfl)) (fun _ _ _ h => h) (Or.inl ⟨by rfl, ?_⟩) ?_ ?_
  rotate_left
  ·intro w'
   go_simp
   with_reducible rfl
  rotate_left
  ·simp only [Act.put, List.setIfInBounds_toArray, List.set_cons_zero, List.set_cons_succ, i64_w, i32_w]
   rfl
  refine pure_ (i := 7) (N := some 53) (v := ?_) (a' := ?_) #[true, true, true, true, true, true, true, true, false, false, false, false, false, false, false, false, false, false] rfl rfl (any_of HT_.out (by kernel_rfl)) (fun _ _ _ h => h) (Or.inl ⟨by rfl, ?_⟩) ?_ ?_
  rotate_left
  ·intro w'
   go_simp
   with_reducible rfl
  rotate_left
  ·simp only [Act.put, List.setIfInBounds_toArray, List.set_cons_zero, List.set_cons_succ, i64_w, i32_w]
   rfl
  refine take_ (i := 8) (N := some 54) (v := ?_) (a' := ?_) #[true, true, true, true, true, true, true, true, true, false, false, false, false, false, false, false, false, false] rfl rfl (take_ofW HT_.out HW_.out (by kernel_rfl)) (fun _ _ _ h => h) (Or.inl ⟨by rfl, ?_⟩) hHeld ?_ ?_
  rotate_left
  ·rintro w' ⟨s0, s1, s2, s3, s4, s5, s6, s7, s8, s9⟩
   go_simp
   with_reducible rfl
  rotate_left
  ·simp only [Act.put, List.setIfInBounds_toArray, List.set_cons_zero, List.set_cons_succ, i64_w, i32_w]
   rfl
  refine pure_ (i := 9) (N := some 55) (v := ?_) (a' := ?_) #[true, true, true, true, true, true, true, true, true, true, false, false, false, false, false, false, false, false] rfl rfl (any_of HT_.out (by kernel_rfl)) (fun _ _ _ h => h) (Or.inl ⟨by rfl, ?_⟩) ?_ ?_
  rotate_left
  ·intro w'
   go_simp
   with_reducible rfl
  rotate_left
  ·simp only [Act.put, List.setIfInBounds_toArray, List.set_cons_zero, List.set_cons_succ, i64_w, i32_w]
   rfl
  refine pure_ (i := 10) (N := some 56) (v := ?_) (a' := ?_) #[true, true, true, true, true, true, true, true, true, true, true, false, false, false, false, false, false, false] rfl rfl (any_of HT_.out (by kernel_rfl)) (fun _ _ _ h => h) (Or.inl ⟨by rfl, ?_⟩) ?_ ?_
  rotate_left
  ·intro w'
   go_simp
   with_reducible rfl
  rotate_left
  ·simp only [Act.put, List.setIfInBounds_toArray, List.set_cons_zero, List.set_cons_succ, i64_w, i32_w]
   rfl
  refine pure_ (i := 11) (N := some 57) (v := ?_) (a' := ?_) #[true, true, true, true, true, true, true, true, true, true, true, true, false, false, false, false, false, false] rfl rfl (any_of HT_.out (by kernel_rfl)) (fun _ _ _ h => h) (Or.inl ⟨by rfl, ?_⟩) ?_ ?_
  rotate_left
  ·intro w'
   go_simp
   with_reducible rfl
  rotate_left
  ·simp only [Act.put, List.setIfInBounds_toArray, List.set_cons_zero, List.set_cons_succ, i64_w, i32_w]
   rfl
  refine take_ (i := 12) (N := some 58) (v := ?_) (a' := ?_) #[true, true, true, true, true, true, true, true, true, true, true, true, true, false, false, false, false, false] rfl rfl (take_ofW HT_.out HW_.out (by kernel_rfl)) (fun _ _ _ h => h) (Or.inl ⟨by rfl, ?_⟩) hHeld ?_ ?_
  rotate_left
  ·rintro w' ⟨s0, s1, s2, s3, s4, s5, s6, s7, s8, s9⟩
   go_simp
   with_reducible rfl
  rotate_left
  ·simp only [Act.put, List.setIfInBounds_toArray, List.set_cons_zero, List.set_cons_succ, i64_w, i32_w]
   rfl
  refine pure_ (i := 13) (N := some 59) (v := ?_) (a' := ?_) #[true, true, true, true, true, true, true, true, true, true, true, true, true, true, false, false, false, false] rfl rfl (any_of HT_.out (by kernel_rfl)) (fun _ _ _ h => h) (Or.inl ⟨by rfl, ?_⟩) ?_ ?_
  rotate_left
  ·intro w'
   go_simp
   with_reducible rfl
  rotate_left
  ·simp only [Act.put, List.setIfInBounds_toArray, List.set_cons_zero, List.set_cons_succ, i64_w, i32_w]
   rfl
  refine pure_ (i := 14) (N := some 60) (v := ?_) (a' := ?_) #[true, true, true, true, true, true, true, true, true, true, true, true, true, true, true, false, false, false] rfl rfl (any_of HT_.out (by kernel_rfl)) (fun _ _ _ h => h) (Or.inl ⟨by rfl, ?_⟩) ?_ ?_
  rotate_left
  ·intro w'
   go_simp
   with_reducible rfl
  rotate_left
  ·simp only [Act.put, List.setIfInBounds_toArray, List.set_cons_zero, List.set_cons_succ, i64_w, i32_w]
   rfl
  refine pure_ (i := 15) (N := some 61) (v := ?_) (a' := ?_) #[true, true, true, true, true, true, true, true, true, true, true, true, true, true, true, true, false, false] rfl rfl (any_of HT_.out (by kernel_rfl)) (fun _ _ _ h => h) (Or.inl ⟨by rfl, ?_⟩) ?_ ?_
  rotate_left
  ·intro w'
   go_simp
   with_reducible rfl
  rotate_left
  ·simp only [Act.put, List.setIfInBounds_toArray, List.set_cons_zero, List.set_cons_succ, i64_w, i32_w]
   rfl
  refine one_ (i := 16) (N := none) #[true, true, true, true, true, true, true, true, true, true, true, true, true, true, true, true, true, false] rfl rfl (one_of HT_.out (by kernel_rfl)) (by decide) (fun K hK => ?_)
  refine skip_ (w1 := ?_) (by rfl) rfl ?_ ?_
  rotate_left
  ·go_simp
   rfl
  have kb3 := off3 (PK.out.2.1 w' PW.out.1) (show w.heap.size ≠ w.heap.size + 1 by omega) (.int .u8 T) (.slice A1 m1 c1) (.slice A2 m2 c2)
  have kn3 := off3 (PK.out.2.2.1 w' PW.out.1) hne2 (.int .u8 T) (.slice A1 m1 c1) (.slice A2 m2 c2)
  refine hK.out _ _ ⟨(blk_cell kb3 0).trans rfl, (blk_cell kb3 1).trans rfl, (blk_cell kb3 2).trans rfl, (blk_cell kb3 3).trans rfl, (blk_cell kb3 4).trans rfl, (blk_cell kb3 5).trans rfl, (blk_cell kb3 6).trans rfl, (blk_cell kn3 0).trans rfl, (blk_cell kn3 1).trans rfl, (blk_cell kn3 2).trans rfl⟩ (fun hHeld => ?_)
  clear hK K kb3 kn3
  refine pure_ (i := 17) (N := some 5) (v := ?_) (a' := ?_) #[true, true, true, true, true, true, true, true, true, true, true, true, true, true, true, true, true, true] rfl rfl (any_of HT_.out (by kernel_rfl)) (fun _ _ _ h => h) (Or.inl ⟨by rfl, ?_⟩) ?_ ?_
  rotate_left
  ·intro w'
   go_simp
   with_reducible rfl
  rotate_left
  ·simp only [Act.put, List.setIfInBounds_toArray, List.set_cons_zero, List.set_cons_succ, i64_w, i32_w]
   rfl
  refine done_ (done_of HT_.out (by kernel_rfl)) ?_
  go_wp2
  have kf := put3 PW.out.2 (.int .u8 T) (.slice A1 m1 c1) (.slice A2 m2 c2)
  refine bodyPost_ret (results_ct rfl _ _ (w.heap.size + 1) 45 #[.int .u8 T, .slice A1 m1 c1, .slice A2 m2 c2] (0, 0) _ rfl (by first | exact kf | exact blk_drew kf) Tryd.underlying45 rfl (by kernel_rfl)) rfl ?_
  have hk1 : ∀ k, (start3 w #[.int .i64 i, .slice Ab nb cb, .string r, .slice Al nl cl, .string sr, .slice As ns cs, .int .i64 e]).heap.size ≤ k → k ≠ w.heap.size + 1 := fun k hk => by rw [start3_size] at hk; omega
  have hk2 : ∀ k, (start3 w #[.int .i64 i, .slice Ab nb cb, .string r, .slice Al nl cl, .string sr, .slice As ns cs, .int .i64 e]).heap.size ≤ k → w.heap.size ≤ k := fun k hk => by rw [start3_size] at hk; omega
  have q1 := far3 (Kd.V_below PK.out.2.2.2.1 PW.out.1) hk1 (.int .u8 T) (.slice A1 m1 c1) (.slice A2 m2 c2)
  have q2 := far3 (Kd.V_below PK.out.2.2.2.2.1 PW.out.1) hk1 (.int .u8 T) (.slice A1 m1 c1) (.slice A2 m2 c2)
  have q3 := set3 (below_step PK.out.2.2.2.2.2 PW.out.1) (Nat.le_succ w.heap.size) (.int .u8 T) (.slice A1 m1 c1) (.slice A2 m2 c2)
  exact ⟨_, _, rfl, by first | exact Kd.V_mono q1 hk2 | exact Kd.V_drew (Kd.V_mono q1 hk2), by first | exact Kd.V_mono q2 hk2 | exact Kd.V_drew (Kd.V_mono q2 hk2), by first | exact q3 | exact below_drew1 q3⟩
set_option maxHeartbeats 8000000 in
set_option maxRecDepth 100000 in
theorem state_bytes (T : Int) (body : List Int) (kids : List S45) (i : Int) (Ab : Option Addr) (cb : Nat) (b : List Int) (r : ByteArray) (Al : Option Addr) (cl : Nat) (l : List ByteArray) (sr : ByteArray) (As : Option Addr) (cs : Nat) (sl : List ByteArray) (e : Int) (w : World)
  (hN : ∀ W, Below w.heap.size w W → Calls Tryd.prog 13 #[.iface 25 (.slice Ab b.length cb)] W fun e' w' => ∃ v1 v2 : Value, e' = .returned (.tuple #[.agg #[.int .u8 T, v1, v2], .bool true]) ∧ Kd.V (Kd.int .u8) 5 w' W.heap.size (fun k => W.heap.size ≤ k) v1 body ∧ Kd.V k45 45 w' W.heap.size (fun k => W.heap.size ≤ k) v2 kids ∧ Below W.heap.size W w') :
  Calls Tryd.prog 9 #[anyV 3, .agg #[.int .i64 i, .slice Ab b.length cb, .string r, .slice Al l.length cl, .string sr, .slice As sl.length cs, .int .i64 e]] w fun e' w' => ∃ v1 v2 : Value, e' = .returned (.tuple #[.agg #[.int .u8 T, v1, v2], .bool ((blankB i b r l sr sl e 111 && decide (b.length ≤ 8192)))]) ∧ Kd.V (Kd.int .u8) 5 w' w.heap.size (fun k => w.heap.size ≤ k) v1 body ∧ Kd.V k45 45 w' w.heap.size (fun k => w.heap.size ≤ k) v2 kids ∧ Below w.heap.size w w' := by
 have PN := Aside0.mk hN
 have PB := Aside0.mk (fun W => blank_111 i Ab cb b r Al cl l sr As cs sl e W)
 have t0 := any_ta3_0
 have t1 := any_ta3_1
 have t2 := any_ta3_2
 have t4 := any_ta3_4
 have t3 := any_ta3_3
 generalize blankB i b r l sr sl e 111 = P at PB ⊢
 obtain ⟨Q, hQ⟩ : ∃ Q, Q = decide ((b.length : Int) ≤ 8192) := ⟨_, rfl⟩
 have hQ2 : decide (b.length ≤ 8192) = Q := by rw [hQ]; exact decide_eq_decide.2 (by omega)
 rw [hQ2]
 clear hQ2
 generalize b.length = nb at PN PB hQ ⊢
 generalize l.length = nl at PN PB ⊢
 generalize sl.length = ns at PN PB ⊢
 have PQ := Aside0.mk hQ
 clear hQ
 obtain ⟨X, hX⟩ : ∃ X, X = anyV 3 := ⟨_, rfl⟩
 rw [← hX] at t0 t1 t2 t4 t3 ⊢
 clear hX hN
 cases P
 ·skip
  rw [Bool.false_and]
  go_enter Tryd.func9, Tryd.ntmps9
  go_wp2_with (go_at_call 13; refine (PN.out _ (start3_below w #[.int .i64 i, .slice Ab nb cb, .string r, .slice Al nl cl, .string sr, .slice As ns cs, .int .i64 e])).mono ?_; rintro e' w1 ⟨v1, v2, rfl, hV1, hV2, hb⟩; obtain ⟨A1, c1, rfl⟩ := Kd.V_slice hV1; obtain ⟨A2, c2, rfl⟩ := Kd.V_slice hV2; generalize hm1 : body.length = m1 at hV1 ⊢; generalize hm2 : kids.length = m2 at hV2 ⊢; have P1 := Aside0.mk (And.intro hV1 (And.intro hV2 hb)); clear hV1 hV2 hb hm1 hm2)
  obtain ⟨o, ho⟩ : ∃ o, Obj.cells #[.int .u8 T, .slice A1 m1 c1, .slice A2 m2 c2] 45 = o := ⟨_, rfl⟩
  have kb := blk_alloc (blk_below (start3_0 w #[.int .i64 i, .slice Ab nb cb, .string r, .slice Al nl cl, .string sr, .slice As ns cs, .int .i64 e]) P1.out.2.2) o
  have kr := blk_alloc (blk_below (start3_1 w #[.int .i64 i, .slice Ab nb cb, .string r, .slice Al nl cl, .string sr, .slice As ns cs, .int .i64 e]) P1.out.2.2) o
  have kn := blk_new w1 o
  have hlt : w.heap.size + 2 < w1.heap.size := blk_lt (blk_below (start3_2 w #[.int .i64 i, .slice Ab nb cb, .string r, .slice Al nl cl, .string sr, .slice As ns cs, .int .i64 e]) P1.out.2.2)
  have hV1 := Kd.V_alloc P1.out.1 o
  have hV2 := Kd.V_alloc P1.out.2.1 o
  have hB := below_alloc (below_step (start3_below w #[.int .i64 i, .slice Ab nb cb, .string r, .slice Al nl cl, .string sr, .slice As ns cs, .int .i64 e]) P1.out.2.2) o
  rw [ho]
  generalize w1.alloc o = W at kb kr kn hV1 hV2 hB ⊢
  rw [← ho] at kn
  clear ho
  have b0 : W.cell? ⟨w.heap.size, 0, none⟩ = some (.int .i64 i) := (blk_cell kb 0).trans rfl
  have b1 : W.cell? ⟨w.heap.size, 1, none⟩ = some (.slice Ab nb cb) := (blk_cell kb 1).trans rfl
  have b2 : W.cell? ⟨w.heap.size, 2, none⟩ = some (.string r) := (blk_cell kb 2).trans rfl
  have b3 : W.cell? ⟨w.heap.size, 3, none⟩ = some (.slice Al nl cl) := (blk_cell kb 3).trans rfl
  have b4 : W.cell? ⟨w.heap.size, 4, none⟩ = some (.string sr) := (blk_cell kb 4).trans rfl
  have b5 : W.cell? ⟨w.heap.size, 5, none⟩ = some (.slice As ns cs) := (blk_cell kb 5).trans rfl
  have b6 : W.cell? ⟨w.heap.size, 6, none⟩ = some (.int .i64 e) := (blk_cell kb 6).trans rfl
  have x0 : W.cell? ⟨w1.heap.size, 0, none⟩ = some (.int .u8 T) := (blk_cell kn 0).trans rfl
  have x1 : W.cell? ⟨w1.heap.size, 1, none⟩ = some (.slice A1 m1 c1) := (blk_cell kn 1).trans rfl
  have x2 : W.cell? ⟨w1.heap.size, 2, none⟩ = some (.slice A2 m2 c2) := (blk_cell kn 2).trans rfl
  have r0 := (blk_cell kr 0).trans rfl
  have y0 := blk_frozen kr 0
  have r1 := (blk_cell kr 1).trans rfl
  have y1 := blk_frozen kr 1
  have r2 := (blk_cell kr 2).trans rfl
  have y2 := blk_frozen kr 2
  have PK := Aside0.mk (And.intro (fun (w' : World) (hb : Below W.heap.size W w') => blk_below kr hb) (And.intro (fun (w' : World) (hb : Below W.heap.size W w') => blk_below kb hb) (And.intro (fun (w' : World) (hb : Below W.heap.size W w') => blk_below kn hb) (And.intro hV1 (And.intro hV2 hB)))))
  have PW0 := Aside0.mk (And.intro (Below.refl W.heap.size W) kr)
  have hne : w.heap.size + 1 ≠ w1.heap.size := by omega
  have hne2 := hne.symm
  have hne3 : w.heap.size ≠ w1.heap.size := by omega
  have hne4 := hne3.symm
  clear kb kr kn hV1 hV2 hB P1 hlt
  refine start_ (n := 14) (S := fun w' => w'.cell? ⟨w.heap.size, 0, none⟩ = some (.int .i64 i) ∧ w'.cell? ⟨w.heap.size, 1, none⟩ = some (.slice Ab nb cb) ∧ w'.cell? ⟨w.heap.size, 2, none⟩ = some (.string r) ∧ w'.cell? ⟨w.heap.size, 3, none⟩ = some (.slice Al nl cl) ∧ w'.cell? ⟨w.heap.size, 4, none⟩ = some (.string sr) ∧ w'.cell? ⟨w.heap.size, 5, none⟩ = some (.slice As ns cs) ∧ w'.cell? ⟨w.heap.size, 6, none⟩ = some (.int .i64 e) ∧ w'.cell? ⟨w1.heap.size, 0, none⟩ = some (.int .u8 T) ∧ w'.cell? ⟨w1.heap.size, 1, none⟩ = some (.slice A1 m1 c1) ∧ w'.cell? ⟨w1.heap.size, 2, none⟩ = some (.slice A2 m2 c2)) (ds := []) #[false, false, false, false, false, false, false, false, false, false, false, false, false, false] (by kernel_rfl) rfl rfl ⟨b0, b1, b2, b3, b4, b5, b6, x0, x1, x2⟩ (fun hHeld => ?_)
  refine with_tabW st_tab18 st_bits18 (fun HT_ HW_ => ?_)
  refine pure_ (i := 1) (N := some 105) (v := ?_) (a' := ?_) #[false, true, false, false, false, false, false, false, false, false, false, false, false, false] rfl rfl (any_of HT_.out (by kernel_rfl)) (fun _ _ _ h => h) (Or.inl ⟨by rfl, ?_⟩) ?_ ?_
  rotate_left
  ·intro w'
   go_simp
   with_reducible rfl
  rotate_left
  ·simp only [Act.put, List.setIfInBounds_toArray, List.set_cons_zero, List.set_cons_succ, i64_w, i32_w]
   rfl
  refine pure_ (i := 2) (N := some 106) (v := ?_) (a' := ?_) #[false, true, true, false, false, false, false, false, false, false, false, false, false, false] rfl rfl (any_of HT_.out (by kernel_rfl)) (fun _ _ _ h => h) (Or.inl ⟨by rfl, ?_⟩) ?_ ?_
  rotate_left
  ·intro w'
   go_simp
   with_reducible rfl
  rotate_left
  ·simp only [Act.put, List.setIfInBounds_toArray, List.set_cons_zero, List.set_cons_succ, i64_w, i32_w]
   rfl
  refine take_ (i := 0) (N := some 104) (v := ?_) (a' := ?_) #[true, true, true, false, false, false, false, false, false, false, false, false, false, false] rfl rfl (take_ofW HT_.out HW_.out (by kernel_rfl)) (fun _ _ _ h => h) (Or.inl ⟨by rfl, ?_⟩) hHeld ?_ ?_
  rotate_left
  ·rintro w' ⟨s0, s1, s2, s3, s4, s5, s6, s7, s8, s9⟩
   go_simp
   with_reducible rfl
  rotate_left
  ·simp only [Act.put, List.setIfInBounds_toArray, List.set_cons_zero, List.set_cons_succ, i64_w, i32_w]
   rfl
  refine take_ (i := 3) (N := some 107) (v := ?_) (a' := ?_) #[true, true, true, true, false, false, false, false, false, false, false, false, false, false] rfl rfl (take_ofW HT_.out HW_.out (by kernel_rfl)) (fun _ _ _ h => h) (Or.inl ⟨by rfl, ?_⟩) hHeld ?_ ?_
  rotate_left
  ·rintro w' ⟨s0, s1, s2, s3, s4, s5, s6, s7, s8, s9⟩
   go_simp
   with_reducible rfl
  rotate_left
  ·simp only [Act.put, List.setIfInBounds_toArray, List.set_cons_zero, List.set_cons_succ, i64_w, i32_w]
   rfl
  refine one_ (i := 4) (N := some 108) #[true, true, true, true, true, false, false, false, false, false, false, false, false, false] rfl rfl (one_of HT_.out (by kernel_rfl)) (by decide) (fun K hK => ?_)
  refine goes_ Tryd.func14 (by kernel_rfl) rfl #[.agg #[.int .i64 i, .slice Ab nb cb, .string r, .slice Al nl cl, .string sr, .slice As ns cs, .int .i64 e], .int .u8 111] (by rfl) rfl rfl (by (try simp only [List.map_toArray, List.map_cons, List.map_nil]); first | done | rfl) ?_
  refine (PB.out _).mono ?_
  rintro e' w' ⟨rfl, hb⟩; refine ⟨_, rfl, ?_⟩; have hbW : Below W.heap.size W w' := (below_step (below_drew1 (Below.refl _ _)) hb); have kb2 := PK.out.2.1 w' hbW; have kr2 := PK.out.1 w' hbW; have kn2 := PK.out.2.2.1 w' hbW; have b20 := (blk_cell kb2 0).trans rfl; have b21 := (blk_cell kb2 1).trans rfl; have b22 := (blk_cell kb2 2).trans rfl; have b23 := (blk_cell kb2 3).trans rfl; have b24 := (blk_cell kb2 4).trans rfl; have b25 := (blk_cell kb2 5).trans rfl; have b26 := (blk_cell kb2 6).trans rfl; have x20 := (blk_cell kn2 0).trans rfl; have r20 := (blk_cell kr2 0).trans rfl; have y20 := blk_frozen kr2 0; have x21 := (blk_cell kn2 1).trans rfl; have r21 := (blk_cell kr2 1).trans rfl; have y21 := blk_frozen kr2 1; have x22 := (blk_cell kn2 2).trans rfl; have r22 := (blk_cell kr2 2).trans rfl; have y22 := blk_frozen kr2 2; have PW := Aside0.mk (And.intro hbW kr2); clear hb hbW kb2 kr2 kn2
  refine hK.out _ _ ⟨b20, b21, b22, b23, b24, b25, b26, x20, x21, x22⟩ (fun hHeld => ?_)
  clear hK K
  refine norm_ (a' := ?_) ?_ ?_
  rotate_left
  ·show Act.put _ (some 108) _ = _
   simp only [Act.put, List.setIfInBounds_toArray, List.set_cons_zero, List.set_cons_succ, i64_w, i32_w]
   rfl
  refine pure_ (i := 5) (N := some 109) (v := ?_) (a' := ?_) #[true, true, true, true, true, true, false, false, false, false, false, false, false, false] rfl rfl (any_of HT_.out (by kernel_rfl)) (fun _ _ _ h => h) (Or.inl ⟨by rfl, ?_⟩) ?_ ?_
  rotate_left
  ·intro w'
   go_simp
   with_reducible rfl
  rotate_left
  ·simp only [Act.put, List.setIfInBounds_toArray, List.set_cons_zero, List.set_cons_succ, i64_w, i32_w]
   rfl
  refine pure_ (i := 6) (N := some 110) (v := ?_) (a' := ?_) #[true, true, true, true, true, true, true, false, false, false, false, false, false, false] rfl rfl (any_of HT_.out (by kernel_rfl)) (fun _ _ _ h => h) (Or.inl ⟨by rfl, ?_⟩) ?_ ?_
  rotate_left
  ·intro w'
   go_simp
   with_reducible rfl
  rotate_left
  ·simp only [Act.put, List.setIfInBounds_toArray, List.set_cons_zero, List.set_cons_succ, i64_w, i32_w]
   rfl
  refine pure_ (i := 7) (N := some 111) (v := undef) (a' := ?_) #[true, true, true, true, true, true, true, true, false, false, false, false, false, false] rfl rfl (any_of HT_.out (by kernel_rfl)) (fun _ _ _ h => h) (Or.inr ⟨by rfl, rfl⟩) ?_ ?_
  rotate_left
  ·simp only [Act.put, List.setIfInBounds_toArray, List.set_cons_zero, List.set_cons_succ, i64_w, i32_w]
   rfl
  refine pure_ (i := 8) (N := some 112) (v := undef) (a' := ?_) #[true, true, true, true, true, true, true, true, true, false, false, false, false, false] rfl rfl (any_of HT_.out (by kernel_rfl)) (fun _ _ _ h => h) (Or.inr ⟨by rfl, rfl⟩) ?_ ?_
  rotate_left
  ·simp only [Act.put, List.setIfInBounds_toArray, List.set_cons_zero, List.set_cons_succ, i64_w, i32_w]
   rfl
  refine pure_ (i := 9) (N := some 113) (v := undef) (a' := ?_) #[true, true, true, true, true, true, true, true, true, true, false, false, false, false] rfl rfl (any_of HT_.out (by kernel_rfl)) (fun _ _ _ h => h) (Or.inr ⟨by rfl, rfl⟩) ?_ ?_
  rotate_left
  ·simp only [Act.put, List.setIfInBounds_toArray, List.set_cons_zero, List.set_cons_succ, i64_w, i32_w]
   rfl
  refine pure_ (i := 10) (N := some 114) (v := undef) (a' := ?_) #[true, true, true, true, true, true, true, true, true, true, true, false, false, false] rfl rfl (any_of HT_.out (by kernel_rfl)) (fun _ _ _ h => h) (Or.inr ⟨by rfl, rfl⟩) ?_ ?_
  rotate_left
  ·simp only [Act.put, List.setIfInBounds_toArray, List.set_cons_zero, List.set_cons_succ, i64_w, i32_w]
   rfl
  refine pure_ (i := 11) (N := some 115) (v := ?_) (a' := ?_) #[true, true, true, true, true, true, true, true, true, true, true, true, false, false] rfl rfl (any_of HT_.out (by kernel_rfl)) (fun _ _ _ h => h) (Or.inl ⟨by rfl, ?_⟩) ?_ ?_
  rotate_left
  ·intro w'
   go_simp
   with_reducible rfl
  rotate_left
  ·simp only [Act.put, List.setIfInBounds_toArray, List.set_cons_zero, List.set_cons_succ, i64_w, i32_w]
   rfl
  refine one_ (i := 12) (N := none) #[true, true, true, true, true, true, true, true, true, true, true, true, true, false] rfl rfl (one_of HT_.out (by kernel_rfl)) (by decide) (fun K hK => ?_)
  refine skip_ (w1 := ?_) (by rfl) rfl ?_ ?_
  rotate_left
  ·go_simp
   rfl
  have kb3 := off3 (PK.out.2.1 w' PW.out.1) (show w.heap.size ≠ w.heap.size + 1 by omega) (.int .u8 T) (.slice A1 m1 c1) (.slice A2 m2 c2)
  have kn3 := off3 (PK.out.2.2.1 w' PW.out.1) hne2 (.int .u8 T) (.slice A1 m1 c1) (.slice A2 m2 c2)
  refine hK.out _ _ ⟨(blk_cell kb3 0).trans rfl, (blk_cell kb3 1).trans rfl, (blk_cell kb3 2).trans rfl, (blk_cell kb3 3).trans rfl, (blk_cell kb3 4).trans rfl, (blk_cell kb3 5).trans rfl, (blk_cell kb3 6).trans rfl, (blk_cell kn3 0).trans rfl, (blk_cell kn3 1).trans rfl, (blk_cell kn3 2).trans rfl⟩ (fun hHeld => ?_)
  clear hK K kb3 kn3
  refine pure_ (i := 13) (N := some 5) (v := ?_) (a' := ?_) #[true, true, true, true, true, true, true, true, true, true, true, true, true, true] rfl rfl (any_of HT_.out (by kernel_rfl)) (fun _ _ _ h => h) (Or.inl ⟨by rfl, ?_⟩) ?_ ?_
  rotate_left
  ·intro w'
   go_simp
   with_reducible rfl
  rotate_left
  ·simp only [Act.put, List.setIfInBounds_toArray, List.set_cons_zero, List.set_cons_succ, i64_w, i32_w]
   rfl
  refine done_ (done_of HT_.out (by kernel_rfl)) ?_
  go_wp2
  have kf := put3 PW.out.2 (.int .u8 T) (.slice A1 m1 c1) (.slice A2 m2 c2)
  refine bodyPost_ret (results_ct rfl _ _ (w.heap.size + 1) 45 #[.int .u8 T, .slice A1 m1 c1, .slice A2 m2 c2] (0, 0) _ rfl (by first | exact kf | exact blk_drew kf) Tryd.underlying45 rfl (by kernel_rfl)) rfl ?_
  have hk1 : ∀ k, (start3 w #[.int .i64 i, .slice Ab nb cb, .string r, .slice Al nl cl, .string sr, .slice As ns cs, .int .i64 e]).heap.size ≤ k → k ≠ w.heap.size + 1 := fun k hk => by rw [start3_size] at hk; omega
  have hk2 : ∀ k, (start3 w #[.int .i64 i, .slice Ab nb cb, .string r, .slice Al nl cl, .string sr, .slice As ns cs, .int .i64 e]).heap.size ≤ k → w.heap.size ≤ k := fun k hk => by rw [start3_size] at hk; omega
  have q1 := far3 (Kd.V_below PK.out.2.2.2.1 PW.out.1) hk1 (.int .u8 T) (.slice A1 m1 c1) (.slice A2 m2 c2)
  have q2 := far3 (Kd.V_below PK.out.2.2.2.2.1 PW.out.1) hk1 (.int .u8 T) (.slice A1 m1 c1) (.slice A2 m2 c2)
  have q3 := set3 (below_step PK.out.2.2.2.2.2 PW.out.1) (Nat.le_succ w.heap.size) (.int .u8 T) (.slice A1 m1 c1) (.slice A2 m2 c2)
  exact ⟨_, _, rfl, by first | exact Kd.V_mono q1 hk2 | exact Kd.V_drew (Kd.V_mono q1 hk2), by first | exact Kd.V_mono q2 hk2 | exact Kd.V_drew (Kd.V_mono q2 hk2), by first | exact q3 | exact below_drew1 q3⟩
 ·skip
  rw [Bool.true_and]
  go_enter Tryd.func9, Tryd.ntmps9
  go_wp2_with (go_at_call 13; refine (PN.out _ (start3_below w #[.int .i64 i, .slice Ab nb cb, .string r, .slice Al nl cl, .string sr, .slice As ns cs, .int .i64 e])).mono ?_; rintro e' w1 ⟨v1, v2, rfl, hV1, hV2, hb⟩; obtain ⟨A1, c1, rfl⟩ := Kd.V_slice hV1; obtain ⟨A2, c2, rfl⟩ := Kd.V_slice hV2; generalize hm1 : body.length = m1 at hV1 ⊢; generalize hm2 : kids.length = m2 at hV2 ⊢; have P1 := Aside0.mk (And.intro hV1 (And.intro hV2 hb)); clear hV1 hV2 hb hm1 hm2)
  obtain ⟨o, ho⟩ : ∃ o, Obj.cells #[.int .u8 T, .slice A1 m1 c1, .slice A2 m2 c2] 45 = o := ⟨_, rfl⟩
  have kb := blk_alloc (blk_below (start3_0 w #[.int .i64 i, .slice Ab nb cb, .string r, .slice Al nl cl, .string sr, .slice As ns cs, .int .i64 e]) P1.out.2.2) o
  have kr := blk_alloc (blk_below (start3_1 w #[.int .i64 i, .slice Ab nb cb, .string r, .slice Al nl cl, .string sr, .slice As ns cs, .int .i64 e]) P1.out.2.2) o
  have kn := blk_new w1 o
  have hlt : w.heap.size + 2 < w1.heap.size := blk_lt (blk_below (start3_2 w #[.int .i64 i, .slice Ab nb cb, .string r, .slice Al nl cl, .string sr, .slice As ns cs, .int .i64 e]) P1.out.2.2)
  have hV1 := Kd.V_alloc P1.out.1 o
  have hV2 := Kd.V_alloc P1.out.2.1 o
  have hB := below_alloc (below_step (start3_below w #[.int .i64 i, .slice Ab nb cb, .string r, .slice Al nl cl, .string sr, .slice As ns cs, .int .i64 e]) P1.out.2.2) o
  rw [ho]
  generalize w1.alloc o = W at kb kr kn hV1 hV2 hB ⊢
  rw [← ho] at kn
  clear ho
  have b0 : W.cell? ⟨w.heap.size, 0, none⟩ = some (.int .i64 i) := (blk_cell kb 0).trans rfl
  have b1 : W.cell? ⟨w.heap.size, 1, none⟩ = some (.slice Ab nb cb) := (blk_cell kb 1).trans rfl
  have b2 : W.cell? ⟨w.heap.size, 2, none⟩ = some (.string r) := (blk_cell kb 2).trans rfl
  have b3 : W.cell? ⟨w.heap.size, 3, none⟩ = some (.slice Al nl cl) := (blk_cell kb 3).trans rfl
  have b4 : W.cell? ⟨w.heap.size, 4, none⟩ = some (.string sr) := (blk_cell kb 4).trans rfl
  have b5 : W.cell? ⟨w.heap.size, 5, none⟩ = some (.slice As ns cs) := (blk_cell kb 5).trans rfl
  have b6 : W.cell? ⟨w.heap.size, 6, none⟩ = some (.int .i64 e) := (blk_cell kb 6).trans rfl
  have x0 : W.cell? ⟨w1.heap.size, 0, none⟩ = some (.int .u8 T) := (blk_cell kn 0).trans rfl
  have x1 : W.cell? ⟨w1.heap.size, 1, none⟩ = some (.slice A1 m1 c1) := (blk_cell kn 1).trans rfl
  have x2 : W.cell? ⟨w1.heap.size, 2, none⟩ = some (.slice A2 m2 c2) := (blk_cell kn 2).trans rfl
  have r0 := (blk_cell kr 0).trans rfl
  have y0 := blk_frozen kr 0
  have r1 := (blk_cell kr 1).trans rfl
  have y1 := blk_frozen kr 1
  have r2 := (blk_cell kr 2).trans rfl
  have y2 := blk_frozen kr 2
  have PK := Aside0.mk (And.intro (fun (w' : World) (hb : Below W.heap.size W w') => blk_below kr hb) (And.intro (fun (w' : World) (hb : Below W.heap.size W w') => blk_below kb hb) (And.intro (fun (w' : World) (hb : Below W.heap.size W w') => blk_below kn hb) (And.intro hV1 (And.intro hV2 hB)))))
  have PW0 := Aside0.mk (And.intro (Below.refl W.heap.size W) kr)
  have hne : w.heap.size + 1 ≠ w1.heap.size := by omega
  have hne2 := hne.symm
  have hne3 : w.heap.size ≠ w1.heap.size := by omega
  have hne4 := hne3.symm
  clear kb kr kn hV1 hV2 hB P1 hlt
  refine start_ (n := 14) (S := fun w' => w'.cell? ⟨w.heap.size, 0, none⟩ = some (.int .i64 i) ∧ w'.cell? ⟨w.heap.size, 1, none⟩ = some (.slice Ab nb cb) ∧ w'.cell? ⟨w.heap.size, 2, none⟩ = some (.string r) ∧ w'.cell? ⟨w.heap.size, 3, none⟩ = some (.slice Al nl cl) ∧ w'.cell? ⟨w.heap.size, 4, none⟩ = some (.string sr) ∧ w'.cell? ⟨w.heap.size, 5, none⟩ = some (.slice As ns cs) ∧ w'.cell? ⟨w.heap.size, 6, none⟩ = some (.int .i64 e) ∧ w'.cell? ⟨w1.heap.size, 0, none⟩ = some (.int .u8 T) ∧ w'.cell? ⟨w1.heap.size, 1, none⟩ = some (.slice A1 m1 c1) ∧ w'.cell? ⟨w1.heap.size, 2, none⟩ = some (.slice A2 m2 c2)) (ds := []) #[false, false, false, false, false, false, false, false, false, false, false, false, false, false] (by kernel_rfl) rfl rfl ⟨b0, b1, b2, b3, b4, b5, b6, x0, x1, x2⟩ (fun hHeld => ?_)
  refine with_tabW st_tab18 st_bits18 (fun HT_ HW_ => ?_)
  refine pure_ (i := 1) (N := some 105) (v := ?_) (a' := ?_) #[false, true, false, false, false, false, false, false, false, false, false, false, false, false] rfl rfl (any_of HT_.out (by kernel_rfl)) (fun _ _ _ h => h) (Or.inl ⟨by rfl, ?_⟩) ?_ ?_
  rotate_left
  ·intro w'
   go_simp
   with_reducible rfl
  rotate_left
  ·simp only [Act.put, List.setIfInBounds_toArray, List.set_cons_zero, List.set_cons_succ, i64_w, i32_w]
   rfl
  refine pure_ (i := 2) (N := some 106) (v := ?_) (a' := ?_) #[false, true, true, false, false, false, false, false, false, false, false, false, false, false] rfl rfl (any_of HT_.out (by kernel_rfl)) (fun _ _ _ h => h) (Or.inl ⟨by rfl, ?_⟩) ?_ ?_
  rotate_left
  ·intro w'
   go_simp
   with_reducible rfl
  rotate_left
  ·simp only [Act.put, List.setIfInBounds_toArray, List.set_cons_zero, List.set_cons_succ, i64_w, i32_w]
   rfl
  refine take_ (i := 0) (N := some 104) (v := ?_) (a' := ?_) #[true, true, true, false, false, false, false, false, false, false, false, false, false, false] rfl rfl (take_ofW HT_.out HW_.out (by kernel_rfl)) (fun _ _ _ h => h) (Or.inl ⟨by rfl, ?_⟩) hHeld ?_ ?_
  rotate_left
  ·rintro w' ⟨s0, s1, s2, s3, s4, s5, s6, s7, s8, s9⟩
   go_simp
   with_reducible rfl
  rotate_left
  ·simp only [Act.put, List.setIfInBounds_toArray, List.set_cons_zero, List.set_cons_succ, i64_w, i32_w]
   rfl
  refine take_ (i := 3) (N := some 107) (v := ?_) (a' := ?_) #[true, true, true, true, false, false, false, false, false, false, false, false, false, false] rfl rfl (take_ofW HT_.out HW_.out (by kernel_rfl)) (fun _ _ _ h => h) (Or.inl ⟨by rfl, ?_⟩) hHeld ?_ ?_
  rotate_left
  ·rintro w' ⟨s0, s1, s2, s3, s4, s5, s6, s7, s8, s9⟩
   go_simp
   with_reducible rfl
  rotate_left
  ·simp only [Act.put, List.setIfInBounds_toArray, List.set_cons_zero, List.set_cons_succ, i64_w, i32_w]
   rfl
  refine one_ (i := 4) (N := some 108) #[true, true, true, true, true, false, false, false, false, false, false, false, false, false] rfl rfl (one_of HT_.out (by kernel_rfl)) (by decide) (fun K hK => ?_)
  refine goes_ Tryd.func14 (by kernel_rfl) rfl #[.agg #[.int .i64 i, .slice Ab nb cb, .string r, .slice Al nl cl, .string sr, .slice As ns cs, .int .i64 e], .int .u8 111] (by rfl) rfl rfl (by (try simp only [List.map_toArray, List.map_cons, List.map_nil]); first | done | rfl) ?_
  refine (PB.out _).mono ?_
  rintro e' w' ⟨rfl, hb⟩; refine ⟨_, rfl, ?_⟩; have hbW : Below W.heap.size W w' := (below_step (below_drew1 (Below.refl _ _)) hb); have kb2 := PK.out.2.1 w' hbW; have kr2 := PK.out.1 w' hbW; have kn2 := PK.out.2.2.1 w' hbW; have b20 := (blk_cell kb2 0).trans rfl; have b21 := (blk_cell kb2 1).trans rfl; have b22 := (blk_cell kb2 2).trans rfl; have b23 := (blk_cell kb2 3).trans rfl; have b24 := (blk_cell kb2 4).trans rfl; have b25 := (blk_cell kb2 5).trans rfl; have b26 := (blk_cell kb2 6).trans rfl; have x20 := (blk_cell kn2 0).trans rfl; have r20 := (blk_cell kr2 0).trans rfl; have y20 := blk_frozen kr2 0; have x21 := (blk_cell kn2 1).trans rfl; have r21 := (blk_cell kr2 1).trans rfl; have y21 := blk_frozen kr2 1; have x22 := (blk_cell kn2 2).trans rfl; have r22 := (blk_cell kr2 2).trans rfl; have y22 := blk_frozen kr2 2; have PW := Aside0.mk (And.intro hbW kr2); clear hb hbW kb2 kr2 kn2
  refine hK.out _ _ ⟨b20, b21, b22, b23, b24, b25, b26, x20, x21, x22⟩ (fun hHeld => ?_)
  clear hK K
  refine norm_ (a' := ?_) ?_ ?_
  rotate_left
  ·show Act.put _ (some 108) _ = _
   simp only [Act.put, List.setIfInBounds_toArray, List.set_cons_zero, List.set_cons_succ, i64_w, i32_w]
   rfl
  refine pure_ (i := 5) (N := some 109) (v := ?_) (a' := ?_) #[true, true, true, true, true, true, false, false, false, false, false, false, false, false] rfl rfl (any_of HT_.out (by kernel_rfl)) (fun _ _ _ h => h) (Or.inl ⟨by rfl, ?_⟩) ?_ ?_
  rotate_left
  ·intro w'
   go_simp
   with_reducible rfl
  rotate_left
  ·simp only [Act.put, List.setIfInBounds_toArray, List.set_cons_zero, List.set_cons_succ, i64_w, i32_w]
   rfl
  refine pure_ (i := 6) (N := some 110) (v := ?_) (a' := ?_) #[true, true, true, true, true, true, true, false, false, false, false, false, false, false] rfl rfl (any_of HT_.out (by kernel_rfl)) (fun _ _ _ h => h) (Or.inl ⟨by rfl, ?_⟩) ?_ ?_
  rotate_left
  ·intro w'
   go_simp
   with_reducible rfl
  rotate_left
  ·simp only [Act.put, List.setIfInBounds_toArray, List.set_cons_zero, List.set_cons_succ, i64_w, i32_w]
   rfl
  refine pure_ (i := 7) (N := some 111) (v := ?_) (a' := ?_) #[true, true, true, true, true, true, true, true, false, false, false, false, false, false] rfl rfl (any_of HT_.out (by kernel_rfl)) (fun _ _ _ h => h) (Or.inl ⟨by rfl, ?_⟩) ?_ ?_
  rotate_left
  ·intro w'
   go_simp
   with_reducible rfl
  rotate_left
  ·simp only [Act.put, List.setIfInBounds_toArray, List.set_cons_zero, List.set_cons_succ, i64_w, i32_w]
   rfl
  refine take_ (i := 8) (N := some 112) (v := ?_) (a' := ?_) #[true, true, true, true, true, true, true, true, true, false, false, false, false, false] rfl rfl (take_ofW HT_.out HW_.out (by kernel_rfl)) (fun _ _ _ h => h) (Or.inl ⟨by rfl, ?_⟩) hHeld ?_ ?_
  rotate_left
  ·rintro w' ⟨s0, s1, s2, s3, s4, s5, s6, s7, s8, s9⟩
   go_simp
   with_reducible rfl
  rotate_left
  ·simp only [Act.put, List.setIfInBounds_toArray, List.set_cons_zero, List.set_cons_succ, i64_w, i32_w]
   rfl
  refine pure_ (i := 9) (N := some 113) (v := ?_) (a' := ?_) #[true, true, true, true, true, true, true, true, true, true, false, false, false, false] rfl rfl (any_of HT_.out (by kernel_rfl)) (fun _ _ _ h => h) (Or.inl ⟨by rfl, ?_⟩) ?_ ?_
  rotate_left
  ·intro w'
   go_simp
   with_reducible rfl
  rotate_left
  ·simp only [Act.put, List.setIfInBounds_toArray, List.set_cons_zero, List.set_cons_succ, i64_w, i32_w]
   rfl
  refine pure_ (i := 10) (N := some 114) (v := ?_) (a' := ?_) #[true, true, true, true, true, true, true, true, true, true, true, false, false, false] rfl rfl (any_of HT_.out (by kernel_rfl)) (fun _ _ _ h => h) (Or.inl ⟨by rfl, ?_⟩) ?_ ?_
  rotate_left
  ·intro w'
   go_simp
   with_reducible rfl
  rotate_left
  ·simp only [Act.put, List.setIfInBounds_toArray, List.set_cons_zero, List.set_cons_succ, i64_w, i32_w]
   rfl
  refine pure_ (i := 11) (N := some 115) (v := ?_) (a' := ?_) #[true, true, true, true, true, true, true, true, true, true, true, true, false, false] rfl rfl (any_of HT_.out (by kernel_rfl)) (fun _ _ _ h => h) (Or.inl ⟨by rfl, ?_⟩) ?_ ?_
  rotate_left
  ·intro w'
   go_simp
   with_reducible rfl
  rotate_left
  ·simp only [Act.put, List.setIfInBounds_toArray, List.set_cons_zero, List.set_cons_succ, i64_w, i32_w]
   rfl
  refine one_ (i := 12) (N := none) #[true, true, true, true, true, true, true, true, true, true, true, true, true, false] rfl rfl (one_of HT_.out (by kernel_rfl)) (by decide) (fun K hK => ?_)
  refine skip_ (w1 := ?_) (by rfl) rfl ?_ ?_
  rotate_left
  ·go_simp
   rfl
  have kb3 := off3 (PK.out.2.1 w' PW.out.1) (show w.heap.size ≠ w.heap.size + 1 by omega) (.int .u8 T) (.slice A1 m1 c1) (.slice A2 m2 c2)
  have kn3 := off3 (PK.out.2.2.1 w' PW.out.1) hne2 (.int .u8 T) (.slice A1 m1 c1) (.slice A2 m2 c2)
  refine hK.out _ _ ⟨(blk_cell kb3 0).trans rfl, (blk_cell kb3 1).trans rfl, (blk_cell kb3 2).trans rfl, (blk_cell kb3 3).trans rfl, (blk_cell kb3 4).trans rfl, (blk_cell kb3 5).trans rfl, (blk_cell kb3 6).trans rfl, (blk_cell kn3 0).trans rfl, (blk_cell kn3 1).trans rfl, (blk_cell kn3 2).trans rfl⟩ (fun hHeld => ?_)
  clear hK K kb3 kn3
  refine pure_ (i := 13) (N := some 5) (v := ?_) (a' := ?_) #[true, true, true, true, true, true, true, true, true, true, true, true, true, true] rfl rfl (any_of HT_.out (by kernel_rfl)) (fun _ _ _ h => h) (Or.inl ⟨by rfl, ?_⟩) ?_ ?_
  rotate_left
  ·intro w'
   go_simp
   with_reducible rfl
  rotate_left
  ·simp only [Act.put, List.setIfInBounds_toArray, List.set_cons_zero, List.set_cons_succ, i64_w, i32_w]
   rfl
  refine done_ (done_of HT_.out (by kernel_rfl)) ?_
  go_wp2
  have kf := put3 PW.out.2 (.int .u8 T) (.slice A1 m1 c1) (.slice A2 m2 c2)
  refine bodyPost_ret (results_ct rfl _ _ (w.heap.size + 1) 45 #[.int .u8 T, .slice A1 m1 c1, .slice A2 m2 c2] (0, 0) _ rfl (by first | exact kf | exact blk_drew kf) Tryd.underlying45 rfl (by kernel_rfl)) rfl ?_
  have hk1 : ∀ k, (start3 w #[.int .i64 i, .slice Ab nb cb, .string r, .slice Al nl cl, .string sr, .slice As ns cs, .int .i64 e]).heap.size ≤ k → k ≠ w.heap.size + 1 := fun k hk => by rw [start3_size] at hk; omega
  have hk2 : ∀ k, (start3 w #[.int .i64 i, .slice Ab nb cb, .string r, .slice Al nl cl, .string sr, .slice As ns cs, .int .i64 e]).heap.size ≤ k → w.heap.size ≤ k := fun k hk => by rw [start3_size] at hk; omega
  have q1 := far3 (Kd.V_below PK.out.2.2.2.1 PW.out.1) hk1 (.int .u8 T) (.slice A1 m1 c1) (.slice A2 m2 c2)
  have q2 := far3 (Kd.V_below PK.out.2.2.2.2.1 PW.out.1) hk1 (.int .u8 T) (.slice A1 m1 c1) (.slice A2 m2 c2)
  have q3 := set3 (below_step PK.out.2.2.2.2.2 PW.out.1) (Nat.le_succ w.heap.size) (.int .u8 T) (.slice A1 m1 c1) (.slice A2 m2 c2)
  exact ⟨_, _, by rw [PQ.out]; rfl, by first | exact Kd.V_mono q1 hk2 | exact Kd.V_drew (Kd.V_mono q1 hk2), by first | exact Kd.V_mono q2 hk2 | exact Kd.V_drew (Kd.V_mono q2 hk2), by first | exact q3 | exact below_drew1 q3⟩
end Go.Proofs.YtncanijjnhkgbaaDoor.PMsgsUnlike
namespace Go.Proofs.YtncanijjnhkgbaaDoor.PMsgsUnlike
open Go.RowKit Go.Proofs.YtncanijjnhkgbaaDoorW.PrintWords Go.Proofs.YtncanijjnhkgbaaDoorW.PrintLast Go.Proofs.YtncanijjnhkgbaaDoorW.PrintMore
theorem node_V {w w1 : World} {base : Nat} {v : Value} {l : List Int} (hV : Kd.V (Kd.int .u8) 5 w1 base (fun k => w.heap.size < k) v l) (u0 u1 u2 : Value) :
  Kd.V (Kd.int .u8) 5 (((w1.setCell ⟨w.heap.size, 0, none⟩ u0).setCell ⟨w.heap.size, 1, none⟩ u1).setCell ⟨w.heap.size, 2, none⟩ u2) w.heap.size (fun k => w.heap.size ≤ k) v l :=
 Kd.V_mono (Kd.V_far (Kd.V_far (Kd.V_far hV (fun _ h => Nat.ne_of_gt h) u0) (fun _ h => Nat.ne_of_gt h) u1) (fun _ h => Nat.ne_of_gt h) u2) (fun _ h => Nat.le_of_lt h)
theorem node_B {w w1 : World} {o : Obj} (hb : Below (w.alloc o).heap.size (w.alloc o) w1) (u0 u1 u2 : Value) :
  Below w.heap.size w (((w1.setCell ⟨w.heap.size, 0, none⟩ u0).setCell ⟨w.heap.size, 1, none⟩ u1).setCell ⟨w.heap.size, 2, none⟩ u2) :=
 below_set (below_set (below_set (below_step (below_alloc (Below.refl _ _) o) hb) (Nat.le_refl _)) (Nat.le_refl _)) (Nat.le_refl _)
theorem node_lt {w : World} {o : Obj} {k : Nat} (h : (w.alloc o).heap.size ≤ k) : w.heap.size < k := by
 simp only [World.alloc, Array.size_push] at h
 omega
theorem node_R {w w1 : World} {o : Obj} {v : Value} {l : List Int} {ok : Nat → Prop} (h : Kd.R (Kd.int .u8) 5 w1 (w.alloc o).heap.size ok v l) : Kd.V (Kd.int .u8) 5 w1 w.heap.size (fun k => w.heap.size < k) v l :=
 Kd.V_mono (Kd.R_V (Kd.R_bound h)) (fun _ hk => node_lt hk.2.1)
theorem node_W {w w1 : World} {o : Obj} {v : Value} {l : List Int} {base : Nat} (h : Kd.V (Kd.int .u8) 5 w1 base (fun k => (w.alloc o).heap.size ≤ k) v l) : Kd.V (Kd.int .u8) 5 w1 w.heap.size (fun k => w.heap.size < k) v l :=
 Kd.V_mono h (fun _ hk => node_lt hk)
theorem empty_R (W : World) (base g : Nat) (hg : W.heap.size = g) (hb : base ≤ g) : Kd.R (Kd.int .u8) 5 (W.alloc (.cells #[] 5)) base (fun _ => True) (.slice (some ⟨g, 0, none⟩) 0 0) [] := by
 subst hg
 exact Kd.R_of_own (enc := Value.int .u8) (h1 := fun _ => rfl) (World.ownsRow_made W #[] 0 hb (by decide) rfl) (fun _ _ => trivial)
set_option maxRecDepth 100000 in
theorem clone_calls (A0 : Option Addr) (c0 : Nat) (l0 : List Int) (w : World) (hr0 : Kd.C (Kd.int .u8) w A0 l0.length l0) (hc0 : l0.length ≤ c0) (hl : l0.length ≤ 1048576) :
  Calls Tryd.prog 24 #[.slice A0 l0.length c0] w fun e w' => ∃ v : Value, e = .returned v ∧ Kd.V (Kd.int .u8) 5 w' w.heap.size (fun k => w.heap.size ≤ k) v l0 ∧ Below w.heap.size w w' := by
 cases A0 with
 | none =>
  have h0 : l0 = [] := by
   apply List.eq_nil_of_length_eq_zero
   rcases Nat.eq_zero_or_pos l0.length with h | h
   ·exact h
   ·obtain ⟨ad, he, _⟩ := hr0.2.2 h
    cases he
  subst h0
  have hq : ∀ W : World, (binOp .eql 25 (.slice none 0 c0) (.slice none 0 0)).run Tryd.prog W = .ok (.bool true) W := fun _ => by kernel_rfl
  go_enter Tryd.func24, Tryd.ntmps24
  go_wp2
  go_ret
  exact ⟨_, rfl, Kd.V_nil _ _ _ _ _, Below.refl _ _⟩
 | some ad =>
  have PR := Aside0.mk hr0
  have hq : ∀ W : World, (binOp .eql 25 (.slice (some ad) l0.length c0) (.slice none 0 0)).run Tryd.prog W = .ok (.bool false) W := fun _ => by kernel_rfl
  clear hr0
  go_enter Tryd.func24, Tryd.ntmps24
  go_wp2_with ((with_reducible refine gate_builtin (b := .append) rfl ?_); at_builtin; refine Kd.R_append_row (Value.int .u8) (0 : Int) (w0 := w) w.heap.size rfl _ _ 25 5 (.int .u8 0) 1 rfl Tryd.underlying25 info5 rfl (by decide) (.slice (some ⟨w.heap.size, 0, none⟩) 0 0) [] l0 (some ad) l0.length c0 (fun _ => True) rfl rfl (fun _ _ => trivial) (empty_R _ _ _ rfl (Nat.le_refl _)) (Kd.C_alloc PR.out _) (below_alloc (Below.refl _ _) _) (below_size (below_alloc (Below.refl _ _) _)) ?hlen ?_; (case hlen => (simp only [List.length_nil]; omega)); intro v1 w1 hr hb hg hat; rw [List.nil_append] at hr; clear hg hat; have PV := Aside0.mk (And.intro (Kd.V_mono (Kd.R_V (base' := w.heap.size) (Kd.R_bound hr)) (ok' := fun k => w.heap.size ≤ k) (fun _ hk => hk.2.1)) hb); clear hr hb)
  go_ret
  exact ⟨_, rfl, PV.out.1, PV.out.2⟩
def wire_Node_int64.f (a0 : Int) : Option (Int × List Int × (List (S45)) × Bool) := some (2, intE a0, [], true)
set_option maxHeartbeats 1000000 in
theorem wire_Node_int64.calls (a0 : Int) (r1 : Int) (r2 : List Int) (r3 : List (S45)) (r4 : Bool) (w : World) (h1 : -9223372036854775808 ≤ a0) (h2 : a0 ≤ 9223372036854775807) (h : wire_Node_int64.f a0 = some (r1, r2, r3, r4)) :
  Calls Tryd.prog 13 #[.iface 2 (.int .i64 a0)] w fun e w' => ∃ v1_ v2_ : Value, e = .returned (.tuple #[.agg #[.int .u8 r1, v1_, v2_], .bool r4]) ∧ Kd.V (Kd.int .u8) 5 w' w.heap.size (fun k_ => (w.heap.size ≤ k_)) v1_ r2 ∧ Kd.V k45 45 w' w.heap.size (fun k_ => (w.heap.size ≤ k_)) v2_ r3 ∧ Below w.heap.size w w' := by
 obtain ⟨rfl, rfl, rfl, rfl⟩ : 2 = r1 ∧ intE a0 = r2 ∧ [] = r3 ∧ true = r4 := by simpa [wire_Node_int64.f] using h
 clear h
 have hp := putInt_some a0 h1 h2 21 (by decide)
 have ta0 : ∀ W : World, (Instr.typeAssert (.iface 2 (.int .i64 a0)) 20 45 true).run Tryd.prog W = .ok (.tuple #[.agg #[.int .u8 0, .slice none 0 0, .slice none 0 0], .bool false]) W := fun _ => by kernel_rfl
 have ta1 : ∀ W : World, (Instr.typeAssert (.iface 2 (.int .i64 a0)) 20 2 true).run Tryd.prog W = .ok (.tuple #[.int .i64 a0, .bool true]) W := fun _ => by kernel_rfl
 go_enter Tryd.func13, Tryd.ntmps13
 go_wp2_with (go_at_call 22; refine (ints_PutInt.calls 21 a0 _ _ hp).mono ?_; rintro e w1 ⟨v, rfl, hR, hb⟩; obtain ⟨A1, c1, rfl⟩ := Kd.R_slice hR; have hk := blk_below (blk_new w _) hb; have z0 := (blk_cell hk 0).trans rfl; have z1 := (blk_cell hk 1).trans rfl; have z2 := (blk_cell hk 2).trans rfl; have y0 := blk_frozen hk 0; have y1 := blk_frozen hk 1; have y2 := blk_frozen hk 2; have PK := Aside0.mk hk; clear hk; have PR := Aside0.mk (node_R hR); have PB := Aside0.mk hb; clear hR hb)
 refine bodyPost_ret (results_ct rfl _ _ w.heap.size 45 #[.int .u8 2, .slice A1 (intE a0).length c1, .slice none 0 0] (0, 0) _ rfl (blk_put (blk_put (blk_put PK.out 0 _ rfl) 1 _ rfl) 2 _ rfl) Tryd.underlying45 rfl (by kernel_rfl)) rfl ?_
 exact ⟨_, _, rfl, node_V PR.out _ _ _, Kd.V_nil _ _ _ _ _, node_B PB.out _ _ _⟩
def wire_Node_bool.f (a0 : Bool) : Option (Int × List Int × (List (S45)) × Bool) := some (1, [if a0 = true then 255 else 0], [], true)
set_option maxHeartbeats 1000000 in
theorem wire_Node_bool.calls (a0 : Bool) (r1 : Int) (r2 : List Int) (r3 : List (S45)) (r4 : Bool) (w : World) (h : wire_Node_bool.f a0 = some (r1, r2, r3, r4)) :
  Calls Tryd.prog 13 #[.iface 4 (.bool a0)] w fun e w' => ∃ v1_ v2_ : Value, e = .returned (.tuple #[.agg #[.int .u8 r1, v1_, v2_], .bool r4]) ∧ Kd.V (Kd.int .u8) 5 w' w.heap.size (fun k_ => (w.heap.size ≤ k_)) v1_ r2 ∧ Kd.V k45 45 w' w.heap.size (fun k_ => (w.heap.size ≤ k_)) v2_ r3 ∧ Below w.heap.size w w' := by
 obtain ⟨rfl, rfl, rfl, rfl⟩ : 1 = r1 ∧ [if a0 = true then 255 else 0] = r2 ∧ [] = r3 ∧ true = r4 := by simpa [wire_Node_bool.f] using h
 clear h
 have hp : ints_PutBool.f a0 = some [if a0 = true then 255 else 0] := by cases a0 <;> rfl
 generalize [if a0 = true then (255 : Int) else 0] = l at hp ⊢
 have ta0 : ∀ W : World, (Instr.typeAssert (.iface 4 (.bool a0)) 20 45 true).run Tryd.prog W = .ok (.tuple #[.agg #[.int .u8 0, .slice none 0 0, .slice none 0 0], .bool false]) W := fun _ => by kernel_rfl
 have ta1 : ∀ W : World, (Instr.typeAssert (.iface 4 (.bool a0)) 20 2 true).run Tryd.prog W = .ok (.tuple #[.int .i64 0, .bool false]) W := fun _ => by kernel_rfl
 have ta2 : ∀ W : World, (Instr.typeAssert (.iface 4 (.bool a0)) 20 4 true).run Tryd.prog W = .ok (.tuple #[.bool a0, .bool true]) W := fun _ => by kernel_rfl
 go_enter Tryd.func13, Tryd.ntmps13
 go_wp2_with (go_at_call 23; refine (ints_PutBool.calls a0 _ _ hp).mono ?_; rintro e w1 ⟨v, rfl, hR, hb⟩; obtain ⟨A1, c1, rfl⟩ := Kd.R_slice hR; have hk := blk_below (blk_new w _) hb; have z0 := (blk_cell hk 0).trans rfl; have z1 := (blk_cell hk 1).trans rfl; have z2 := (blk_cell hk 2).trans rfl; have y0 := blk_frozen hk 0; have y1 := blk_frozen hk 1; have y2 := blk_frozen hk 2; have PK := Aside0.mk hk; clear hk; have PR := Aside0.mk (node_R hR); have PB := Aside0.mk hb; clear hR hb)
 refine bodyPost_ret (results_ct rfl _ _ w.heap.size 45 #[.int .u8 1, .slice A1 l.length c1, .slice none 0 0] (0, 0) _ rfl (blk_put (blk_put (blk_put PK.out 0 _ rfl) 1 _ rfl) 2 _ rfl) Tryd.underlying45 rfl (by kernel_rfl)) rfl ?_
 exact ⟨_, _, rfl, node_V PR.out _ _ _, Kd.V_nil _ _ _ _ _, node_B PB.out _ _ _⟩
def wire_Node_uint8.f (l0 : List Int) : Option (Int × List Int × (List (S45)) × Bool) := if l0.length ≤ 1048576 then some (4, l0, [], true) else none
set_option maxHeartbeats 1000000 in
theorem wire_Node_uint8.calls (A0 : Option Addr) (c0 : Nat) (l0 : List Int) (r1 : Int) (r2 : List Int) (r3 : List (S45)) (r4 : Bool) (w : World) (hr0 : Kd.C (Kd.int .u8) w A0 l0.length l0) (hc0 : l0.length ≤ c0) (h : wire_Node_uint8.f l0 = some (r1, r2, r3, r4)) :
  Calls Tryd.prog 13 #[.iface 25 (.slice A0 l0.length c0)] w fun e w' => ∃ v1_ v2_ : Value, e = .returned (.tuple #[.agg #[.int .u8 r1, v1_, v2_], .bool r4]) ∧ Kd.V (Kd.int .u8) 5 w' w.heap.size (fun k_ => (w.heap.size ≤ k_)) v1_ r2 ∧ Kd.V k45 45 w' w.heap.size (fun k_ => (w.heap.size ≤ k_)) v2_ r3 ∧ Below w.heap.size w w' := by
 unfold wire_Node_uint8.f at h
 by_cases hl : ¬ l0.length ≤ 1048576
 ·rw [if_neg hl] at h; cases h
 rw [Classical.not_not] at hl
 rw [if_pos hl] at h
 obtain ⟨rfl, rfl, rfl, rfl⟩ : 4 = r1 ∧ l0 = r2 ∧ [] = r3 ∧ true = r4 := by simpa using h
 clear h
 have hS := fun o => clone_calls A0 c0 l0 (w.alloc o) (Kd.C_alloc hr0 o) hc0 hl
 have PS := Aside0.mk hS
 clear hS hr0 hc0 hl
 have ta0 : ∀ W : World, (Instr.typeAssert (.iface 25 (.slice A0 l0.length c0)) 20 45 true).run Tryd.prog W = .ok (.tuple #[.agg #[.int .u8 0, .slice none 0 0, .slice none 0 0], .bool false]) W := fun _ => by kernel_rfl
 have ta1 : ∀ W : World, (Instr.typeAssert (.iface 25 (.slice A0 l0.length c0)) 20 2 true).run Tryd.prog W = .ok (.tuple #[.int .i64 0, .bool false]) W := fun _ => by kernel_rfl
 have ta2 : ∀ W : World, (Instr.typeAssert (.iface 25 (.slice A0 l0.length c0)) 20 4 true).run Tryd.prog W = .ok (.tuple #[.bool false, .bool false]) W := fun _ => by kernel_rfl
 have ta3 : ∀ W : World, (Instr.typeAssert (.iface 25 (.slice A0 l0.length c0)) 20 25 true).run Tryd.prog W = .ok (.tuple #[.slice A0 l0.length c0, .bool true]) W := fun _ => by kernel_rfl
 go_enter Tryd.func13, Tryd.ntmps13
 go_wp2_with (go_at_call 24; refine (PS.out _).mono ?_; rintro e w1 ⟨v, rfl, hV, hb⟩; obtain ⟨A1, c1, rfl⟩ := Kd.V_slice hV; have hk := blk_below (blk_new w _) hb; have z0 := (blk_cell hk 0).trans rfl; have z1 := (blk_cell hk 1).trans rfl; have z2 := (blk_cell hk 2).trans rfl; have y0 := blk_frozen hk 0; have y1 := blk_frozen hk 1; have y2 := blk_frozen hk 2; have PK := Aside0.mk hk; clear hk; have PR := Aside0.mk (node_W hV); have PB := Aside0.mk hb; clear hV hb)
 refine bodyPost_ret (results_ct rfl _ _ w.heap.size 45 #[.int .u8 4, .slice A1 l0.length c1, .slice none 0 0] (0, 0) _ rfl (blk_put (blk_put (blk_put PK.out 0 _ rfl) 1 _ rfl) 2 _ rfl) Tryd.underlying45 rfl (by kernel_rfl)) rfl ?_
 exact ⟨_, _, rfl, node_V PR.out _ _ _, Kd.V_nil _ _ _ _ _, node_B PB.out _ _ _⟩
def wire_Node_wireMoment.f (a0 : Int) : Option (Int × List Int × (List (S45)) × Bool) := if -631152000 ≤ a0 ∧ a0 ≤ 253402300799 then some (timeT a0, timeE a0, [], true) else some (0, [], [], false)
set_option maxHeartbeats 1000000 in
theorem wire_Node_wireMoment.calls (a0 : Int) (r1 : Int) (r2 : List Int) (r3 : List (S45)) (r4 : Bool) (w : World) (h : wire_Node_wireMoment.f a0 = some (r1, r2, r3, r4)) :
  Calls Tryd.prog 13 #[.iface 51 (.int .i64 a0)] w fun e w' => ∃ v1_ v2_ : Value, e = .returned (.tuple #[.agg #[.int .u8 r1, v1_, v2_], .bool r4]) ∧ Kd.V (Kd.int .u8) 5 w' w.heap.size (fun k_ => (w.heap.size ≤ k_)) v1_ r2 ∧ Kd.V k45 45 w' w.heap.size (fun k_ => (w.heap.size ≤ k_)) v2_ r3 ∧ Below w.heap.size w w' := by
 unfold wire_Node_wireMoment.f at h
 have ta0 : ∀ W : World, (Instr.typeAssert (.iface 51 (.int .i64 a0)) 20 45 true).run Tryd.prog W = .ok (.tuple #[.agg #[.int .u8 0, .slice none 0 0, .slice none 0 0], .bool false]) W := fun _ => by kernel_rfl
 have ta1 : ∀ W : World, (Instr.typeAssert (.iface 51 (.int .i64 a0)) 20 2 true).run Tryd.prog W = .ok (.tuple #[.int .i64 0, .bool false]) W := fun _ => by kernel_rfl
 have ta2 : ∀ W : World, (Instr.typeAssert (.iface 51 (.int .i64 a0)) 20 4 true).run Tryd.prog W = .ok (.tuple #[.bool false, .bool false]) W := fun _ => by kernel_rfl
 have ta3 : ∀ W : World, (Instr.typeAssert (.iface 51 (.int .i64 a0)) 20 25 true).run Tryd.prog W = .ok (.tuple #[.slice none 0 0, .bool false]) W := fun _ => by kernel_rfl
 have ta4 : ∀ W : World, (Instr.typeAssert (.iface 51 (.int .i64 a0)) 20 52 true).run Tryd.prog W = .ok (.tuple #[.int .i64 0, .bool false]) W := fun _ => by kernel_rfl
 have ta5 : ∀ W : World, (Instr.typeAssert (.iface 51 (.int .i64 a0)) 20 51 true).run Tryd.prog W = .ok (.tuple #[.int .i64 a0, .bool true]) W := fun _ => by kernel_rfl
 by_cases hr : -631152000 ≤ a0 ∧ a0 ≤ 253402300799
 ·rw [if_pos hr] at h
  obtain ⟨rfl, rfl, rfl, rfl⟩ : timeT a0 = r1 ∧ timeE a0 = r2 ∧ [] = r3 ∧ true = r4 := by simpa using h
  have PS := Aside0.mk (fun W => putTime_yes a0 hr.1 hr.2 W)
  generalize timeT a0 = t at PS ⊢
  generalize timeE a0 = l at PS ⊢
  clear h hr
  go_enter Tryd.func13, Tryd.ntmps13
  go_wp2_with (go_at_call 26; refine (PS.out _).mono ?_; rintro e w1 ⟨v, rfl, hV, hb⟩; obtain ⟨A1, c1, rfl⟩ := Kd.V_slice hV; have hk := blk_below (blk_new w _) hb; have z0 := (blk_cell hk 0).trans rfl; have z1 := (blk_cell hk 1).trans rfl; have z2 := (blk_cell hk 2).trans rfl; have y0 := blk_frozen hk 0; have y1 := blk_frozen hk 1; have y2 := blk_frozen hk 2; have PK := Aside0.mk hk; clear hk; have PR := Aside0.mk (node_W hV); have PB := Aside0.mk hb; clear hV hb)
  refine bodyPost_ret (results_ct rfl _ _ w.heap.size 45 #[.int .u8 t, .slice A1 l.length c1, .slice none 0 0] (0, 0) _ rfl (blk_put (blk_put (blk_put PK.out 0 _ rfl) 1 _ rfl) 2 _ rfl) Tryd.underlying45 rfl (by kernel_rfl)) rfl ?_
  exact ⟨_, _, rfl, node_V PR.out _ _ _, Kd.V_nil _ _ _ _ _, node_B PB.out _ _ _⟩
 ·rw [if_neg hr] at h
  obtain ⟨rfl, rfl, rfl, rfl⟩ : 0 = r1 ∧ [] = r2 ∧ [] = r3 ∧ false = r4 := by simpa using h
  have PS := Aside0.mk (fun W => putTime_no a0 hr W)
  clear h hr
  go_enter Tryd.func13, Tryd.ntmps13
  go_wp2_with (go_at_call 26; refine (PS.out _).mono ?_; rintro e w1 ⟨rfl, hb⟩; have hk := blk_below (blk_new w _) hb; have z0 := (blk_cell hk 0).trans rfl; have z1 := (blk_cell hk 1).trans rfl; have z2 := (blk_cell hk 2).trans rfl; have y0 := blk_frozen hk 0; have y1 := blk_frozen hk 1; have y2 := blk_frozen hk 2; have PK := Aside0.mk hk; clear hk; have PB := Aside0.mk hb; clear hb)
  refine bodyPost_ret (results_ct rfl _ _ w.heap.size 45 #[.int .u8 0, .slice none 0 0, .slice none 0 0] (0, 0) _ rfl (blk_put (blk_put (blk_put PK.out 0 _ rfl) 1 _ rfl) 2 _ rfl) Tryd.underlying45 rfl (by kernel_rfl)) rfl ?_
  exact ⟨_, _, rfl, node_V (Kd.V_nil _ _ _ w.heap.size _) _ _ _, Kd.V_nil _ _ _ _ _, node_B PB.out _ _ _⟩
theorem neq_some (ad : Addr) (n c : Nat) : ∀ W : World, (binOp .neq 25 (.slice (some ad) n c) (.slice none 0 0)).run Tryd.prog W = .ok (.bool true) W := fun _ => by kernel_rfl
theorem neq_none : ∀ W : World, (binOp .neq 25 (.slice none 0 0) (.slice none 0 0)).run Tryd.prog W = .ok (.bool false) W := fun _ => by kernel_rfl
set_option maxRecDepth 100000 in
theorem vault_no (a0 : Int) (h : ¬ (0 ≤ a0 ∧ a0 < 281474976710656)) (w : World) :
  Calls Tryd.prog 25 #[.int .i64 a0] w fun e w' => e = .returned (.slice none 0 0) ∧ Below w.heap.size w w' := by
 by_cases h1 : a0 < 0
 ·clear h
  go_enter Tryd.func25, Tryd.ntmps25
  go_wp2_with (fail)
  go_ret
  exact ⟨rfl, Below.refl _ _⟩
 ·have h2 : a0 ≥ 281474976710656 := by omega
  clear h
  go_enter Tryd.func25, Tryd.ntmps25
  go_wp2_with (fail)
  go_ret
  exact ⟨rfl, Below.refl _ _⟩
def wire_Node_wireHandle.f (a0 : Int) : Option (Int × List Int × (List (S45)) × Bool) := if 0 ≤ a0 ∧ a0 < 281474976710656 then some (4, hE a0, [], true) else some (4, [], [], false)
set_option maxHeartbeats 1000000 in
theorem wire_Node_wireHandle.calls (a0 : Int) (r1 : Int) (r2 : List Int) (r3 : List (S45)) (r4 : Bool) (w : World) (h : wire_Node_wireHandle.f a0 = some (r1, r2, r3, r4)) :
  Calls Tryd.prog 13 #[.iface 52 (.int .i64 a0)] w fun e w' => ∃ v1_ v2_ : Value, e = .returned (.tuple #[.agg #[.int .u8 r1, v1_, v2_], .bool r4]) ∧ Kd.V (Kd.int .u8) 5 w' w.heap.size (fun k_ => (w.heap.size ≤ k_)) v1_ r2 ∧ Kd.V k45 45 w' w.heap.size (fun k_ => (w.heap.size ≤ k_)) v2_ r3 ∧ Below w.heap.size w w' := by
 unfold wire_Node_wireHandle.f at h
 have ta0 : ∀ W : World, (Instr.typeAssert (.iface 52 (.int .i64 a0)) 20 45 true).run Tryd.prog W = .ok (.tuple #[.agg #[.int .u8 0, .slice none 0 0, .slice none 0 0], .bool false]) W := fun _ => by kernel_rfl
 have ta1 : ∀ W : World, (Instr.typeAssert (.iface 52 (.int .i64 a0)) 20 2 true).run Tryd.prog W = .ok (.tuple #[.int .i64 0, .bool false]) W := fun _ => by kernel_rfl
 have ta2 : ∀ W : World, (Instr.typeAssert (.iface 52 (.int .i64 a0)) 20 4 true).run Tryd.prog W = .ok (.tuple #[.bool false, .bool false]) W := fun _ => by kernel_rfl
 have ta3 : ∀ W : World, (Instr.typeAssert (.iface 52 (.int .i64 a0)) 20 25 true).run Tryd.prog W = .ok (.tuple #[.slice none 0 0, .bool false]) W := fun _ => by kernel_rfl
 have ta4 : ∀ W : World, (Instr.typeAssert (.iface 52 (.int .i64 a0)) 20 52 true).run Tryd.prog W = .ok (.tuple #[.int .i64 a0, .bool true]) W := fun _ => by kernel_rfl
 by_cases hr : 0 ≤ a0 ∧ a0 < 281474976710656
 ·rw [if_pos hr] at h
  obtain ⟨rfl, rfl, rfl, rfl⟩ : 4 = r1 ∧ hE a0 = r2 ∧ [] = r3 ∧ true = r4 := by simpa using h
  have hf : vault_Bytes.f a0 = some (hE a0) := by
   unfold vault_Bytes.f
   rw [if_neg (by omega), if_neg (by omega)]
   rfl
  have PS := Aside0.mk (fun W => vault_Bytes.calls a0 (hE a0) W hf)
  have hlen : (hE a0).length = 8 := rfl
  generalize hE a0 = l at PS hlen ⊢
  have PL := Aside0.mk hlen
  clear h hr hf hlen
  go_enter Tryd.func13, Tryd.ntmps13
  go_wp2_with (go_at_call 25; refine (PS.out _).mono ?_; rintro e w1 ⟨v, rfl, hR, hb⟩; obtain ⟨ad, c1, rfl⟩ := Kd.R_slice1 hR (by rw [PL.out]; decide); have hq := neq_some ad l.length c1; have hk := blk_below (blk_new w _) hb; have z0 := (blk_cell hk 0).trans rfl; have z1 := (blk_cell hk 1).trans rfl; have z2 := (blk_cell hk 2).trans rfl; have y0 := blk_frozen hk 0; have y1 := blk_frozen hk 1; have y2 := blk_frozen hk 2; have PK := Aside0.mk hk; clear hk; have PR := Aside0.mk (node_R hR); have PB := Aside0.mk hb; clear hR hb)
  refine bodyPost_ret (results_ct rfl _ _ w.heap.size 45 #[.int .u8 4, .slice (some ad) l.length c1, .slice none 0 0] (0, 0) _ rfl (blk_put (blk_put (blk_put PK.out 0 _ rfl) 1 _ rfl) 2 _ rfl) Tryd.underlying45 rfl (by kernel_rfl)) rfl ?_
  exact ⟨_, _, rfl, node_V PR.out _ _ _, Kd.V_nil _ _ _ _ _, node_B PB.out _ _ _⟩
 ·rw [if_neg hr] at h
  obtain ⟨rfl, rfl, rfl, rfl⟩ : 4 = r1 ∧ [] = r2 ∧ [] = r3 ∧ false = r4 := by simpa using h
  have PS := Aside0.mk (fun W => vault_no a0 hr W)
  clear h hr
  go_enter Tryd.func13, Tryd.ntmps13
  go_wp2_with (go_at_call 25; refine (PS.out _).mono ?_; rintro e w1 ⟨rfl, hb⟩; have hq := neq_none; have hk := blk_below (blk_new w _) hb; have z0 := (blk_cell hk 0).trans rfl; have z1 := (blk_cell hk 1).trans rfl; have z2 := (blk_cell hk 2).trans rfl; have y0 := blk_frozen hk 0; have y1 := blk_frozen hk 1; have y2 := blk_frozen hk 2; have PK := Aside0.mk hk; clear hk; have PB := Aside0.mk hb; clear hb)
  refine bodyPost_ret (results_ct rfl _ _ w.heap.size 45 #[.int .u8 4, .slice none 0 0, .slice none 0 0] (0, 0) _ rfl (blk_put (blk_put (blk_put PK.out 0 _ rfl) 1 _ rfl) 2 _ rfl) Tryd.underlying45 rfl (by kernel_rfl)) rfl ?_
  exact ⟨_, _, rfl, node_V (Kd.V_nil _ _ _ w.heap.size _) _ _ _, Kd.V_nil _ _ _ _ _, node_B PB.out _ _ _⟩
end Go.Proofs.YtncanijjnhkgbaaDoor.PMsgsUnlike
namespace Go.Proofs.YtncanijjnhkgbaaDoor.PMsgsUnlike
open Go.RowKit Go.Proofs.YtncanijjnhkgbaaDoorW.PrintWords Go.Proofs.YtncanijjnhkgbaaDoorW.PrintLast Go.Proofs.YtncanijjnhkgbaaDoorW.PrintMore
theorem bytesWorld_below (w : World) (e : TypeId) (s : ByteArray) : Below w.heap.size w (Lib.bytesWorld w e s) :=
 ⟨rfl, rfl, rfl, by rw [Lib.bytesWorld_size]; omega, fun i hi => Lib.bytesWorld_at_old w e s i hi⟩
theorem bytesOf_at (s : ByteArray) (j : Nat) (hj : j < s.size) : (bytesOf s).getD j 0 = ((s.data.toList.getD j 0).toNat : Int) := by
 have hl : j < s.data.toList.length := by simpa using hj
 simp [bytesOf, List.getD_eq_getElem?_getD, List.getElem?_eq_getElem hl]
theorem bytes_C (w W' : World) (e : TypeId) (s : ByteArray) (hs : s.size ≤ 9223372036854775807) (h : W'.heap[w.heap.size]? = (Lib.bytesWorld w e s).heap[w.heap.size]?) : (Kd.int .u8).C W' (some ⟨w.heap.size, 0, none⟩) (bytesOf s).length (bytesOf s) := by
 refine Kd.C_of_reads (d := (0 : Int)) ⟨rfl, by rw [bytesOf_length]; exact hs, fun _ => ⟨_, rfl, fun j hj => ?_⟩⟩
 rw [bytesOf_length] at hj
 have h1 := Lib.bytesWorld_cell w e s j hj
 rw [bytesOf_at s j hj]
 rw [← h1]
 have ha : (⟨w.heap.size, 0, none⟩ : Addr).add j = ⟨w.heap.size, j, none⟩ := by
  cases j <;> simp [Addr.add]
 rw [ha]
 simp only [World.cell?, h]
theorem bytes_V (w : World) (e : TypeId) (s : ByteArray) (g : Nat) (hg : w.heap.size = g) (hs : s.size ≤ 9223372036854775807) (base : Nat) (ok : Nat → Prop) (hok : ok g) :
  Kd.V (Kd.int .u8) e (Lib.bytesWorld w e s) base ok (.slice (some ⟨g, 0, none⟩) s.size (grownCap w s.size 0 e)) (bytesOf s) := by
 subst hg
 have h : Kd.V (Kd.int .u8) e (Lib.bytesWorld w e s) base ok (.slice (some ⟨w.heap.size, 0, none⟩) (bytesOf s).length (grownCap w s.size 0 e)) (bytesOf s) :=
  Kd.V_mk (by rw [bytesOf_length]; exact grownCap_ge w s.size 0 e) (fun W' hW => bytes_C w W' e s hs (hW _ hok (by rw [Lib.bytesWorld_size]; omega)))
 rw [bytesOf_length] at h
 exact h
end Go.Proofs.YtncanijjnhkgbaaDoor.PMsgsUnlike
namespace Go.Proofs.YtncanijjnhkgbaaDoor.PMsgsUnlike
open Go.RowKit Go.Proofs.YtncanijjnhkgbaaDoorW.PrintWords Go.Proofs.YtncanijjnhkgbaaDoorW.PrintLast Go.Proofs.YtncanijjnhkgbaaDoorW.PrintMore
theorem conv_general (s : ByteArray) : ∀ W : World, (convert 70 25 (.string s)).run Tryd.prog W = .ok (.slice (some ⟨W.heap.size, 0, none⟩) s.size (grownCap W s.size 0 5)) (Lib.bytesWorld W 5 s) :=
 fun W => Lib.run_convert_string_bytes W 70 25 5 s Tryd.underlying70 Tryd.underlying25 Tryd.underlying5
theorem strOf_bytesOf (s : ByteArray) : strOfNums (bytesOf s) = s := by
 unfold strOfNums bytesOf
 rw [List.map_map]
 have : ((fun n : Int => UInt8.ofNat n.toNat) ∘ fun b : UInt8 => (b.toNat : Int)) = id := by
  funext b
  simp
 rw [this, List.map_id]
theorem right_text (s : ByteArray) (hs : s.size ≤ 1048576) (W : World) :
  Calls Tryd.prog 27 #[.int .u8 27, .slice (some ⟨W.heap.size, 0, none⟩) s.size (grownCap W s.size 0 5)] (Lib.bytesWorld W 5 s) fun e w' => e = .returned (.bool (genS s)) ∧ Below (Lib.bytesWorld W 5 s).heap.size (Lib.bytesWorld W 5 s) w' := by
 have hC := bytes_C W (Lib.bytesWorld W 5 s) 5 s (by omega) rfl
 have h := texts_Right.calls 27 _ (grownCap W s.size 0 5) (bytesOf s) (genB (bytesOf s)) _ hC (by rw [bytesOf_length]; exact grownCap_ge _ _ _ _) rfl
 have hg : genB (bytesOf s) = genS s := by
  unfold genB
  congr 1
  exact strOf_bytesOf s
 rw [bytesOf_length, hg] at h
 exact h
theorem node_general (s : ByteArray) (hs : s.size ≤ 1048576) (w : World) :
  Calls Tryd.prog 13 #[.iface 70 (.string s)] w fun e w' => ∃ A c, e = .returned (.tuple #[.agg #[.int .u8 27, .slice A s.size c, .slice none 0 0], .bool (genS s)]) ∧ Kd.V (Kd.int .u8) 5 w' w.heap.size (fun k => w.heap.size ≤ k) (.slice A s.size c) (bytesOf s) ∧ Below w.heap.size w w' := by
 have ta0 : ∀ W : World, (Instr.typeAssert (.iface 70 (.string s)) 20 45 true).run Tryd.prog W = .ok (.tuple #[.agg #[.int .u8 0, .slice none 0 0, .slice none 0 0], .bool false]) W := fun _ => by kernel_rfl
 have ta1 : ∀ W : World, (Instr.typeAssert (.iface 70 (.string s)) 20 2 true).run Tryd.prog W = .ok (.tuple #[.int .i64 0, .bool false]) W := fun _ => by kernel_rfl
 have ta2 : ∀ W : World, (Instr.typeAssert (.iface 70 (.string s)) 20 4 true).run Tryd.prog W = .ok (.tuple #[.bool false, .bool false]) W := fun _ => by kernel_rfl
 have ta3 : ∀ W : World, (Instr.typeAssert (.iface 70 (.string s)) 20 25 true).run Tryd.prog W = .ok (.tuple #[.slice none 0 0, .bool false]) W := fun _ => by kernel_rfl
 have ta4 : ∀ W : World, (Instr.typeAssert (.iface 70 (.string s)) 20 52 true).run Tryd.prog W = .ok (.tuple #[.int .i64 0, .bool false]) W := fun _ => by kernel_rfl
 have ta5 : ∀ W : World, (Instr.typeAssert (.iface 70 (.string s)) 20 51 true).run Tryd.prog W = .ok (.tuple #[.int .i64 0, .bool false]) W := fun _ => by kernel_rfl
 have ta6 : ∀ W : World, (Instr.typeAssert (.iface 70 (.string s)) 20 70 true).run Tryd.prog W = .ok (.tuple #[.string s, .bool true]) W := fun _ => by kernel_rfl
 have hcv := conv_general s
 have hR := right_text s hs
 have PS := Aside0.mk hs
 clear hs
 go_enter Tryd.func13, Tryd.ntmps13
 go_wp2_with (go_at_call 27; refine (hR _).mono ?_; rintro e w1 ⟨rfl, hb⟩; have hk := blk_below (blk_below (blk_below (blk_new w _) (bytesWorld_below _ _ _)) (bytesWorld_below _ _ _)) hb; have z0 := (blk_cell hk 0).trans rfl; have z1 := (blk_cell hk 1).trans rfl; have z2 := (blk_cell hk 2).trans rfl; have y0 := blk_frozen hk 0; have y1 := blk_frozen hk 1; have y2 := blk_frozen hk 2; have PK := Aside0.mk hk; clear hk; have PB := Aside0.mk (below_step (below_step (bytesWorld_below _ _ _) (bytesWorld_below _ _ _)) hb); have PV := Aside0.mk (Kd.V_below (Kd.V_below (bytes_V (w.alloc (.cells #[.int .u8 0, .slice none 0 0, .slice none 0 0] 45)) 5 s (w.heap.size + 1) (by simp only [World.alloc, Array.size_push]) (by have := PS.out; omega) w.heap.size (fun k => w.heap.size < k) (Nat.lt_succ_self _)) (bytesWorld_below _ _ _)) hb); clear hb)
 refine bodyPost_ret (results_ct rfl _ _ w.heap.size 45 #[.int .u8 27, .slice (some ⟨w.heap.size + 1, 0, none⟩) s.size (grownCap (w.alloc (.cells #[.int .u8 0, .slice none 0 0, .slice none 0 0] 45)) s.size 0 5), .slice none 0 0] (0, 0) _ rfl (blk_put (blk_put (blk_put PK.out 0 _ rfl) 1 _ rfl) 2 _ rfl) Tryd.underlying45 rfl (by kernel_rfl)) rfl ?_
 exact ⟨_, _, rfl, node_V PV.out _ _ _, node_B PB.out _ _ _⟩
def lenB (s : ByteArray) : Bool := decide (0 < s.size) && decide (s.size ≤ 64)
theorem word_calls (s : ByteArray) (w : World) : Calls Tryd.prog 32 #[.string s] w fun e w' => e = .returned (.bool (lenB s)) ∧ w' = w := by
 unfold lenB
 by_cases h1 : 0 < s.size
 ·by_cases h2 : s.size ≤ 64
  ·have h3 : (s.size : Int) ≤ 64 := by omega
   rw [decide_eq_true h1, decide_eq_true h2]
   go_enter Tryd.func32, Tryd.ntmps32
   go_wp2
   go_ret
   exact ⟨by first | rfl | simp [*], rfl⟩
  ·have h3 : 64 < (s.size : Int) := by omega
   rw [decide_eq_true h1, decide_eq_false h2]
   go_enter Tryd.func32, Tryd.ntmps32
   go_wp2
   go_ret
   exact ⟨by first | rfl | simp [*], rfl⟩
 ·rw [decide_eq_false h1]
  go_enter Tryd.func32, Tryd.ntmps32
  go_wp2
  go_ret
  exact ⟨by first | rfl | simp [*], rfl⟩
set_option maxHeartbeats 1000000 in
theorem of_calls (s : ByteArray) (hs : s.size ≤ 1048576) (w : World) :
  Calls Tryd.prog 31 #[.string s] w fun e w' => ∃ A c, e = .returned (.tuple #[.agg #[.int .u8 27, .slice A s.size c, .slice none 0 0], .bool (genS s && lenB s)]) ∧ Kd.V (Kd.int .u8) 5 w' w.heap.size (fun k => w.heap.size ≤ k) (.slice A s.size c) (bytesOf s) ∧ Below w.heap.size w w' := by
 have PN := Aside0.mk (fun W => node_general s hs W)
 have PW := Aside0.mk (fun W => word_calls s W)
 clear hs
 generalize genS s = G at PN ⊢
 generalize lenB s = L at PW ⊢
 cases G
 ·go_enter Tryd.func31, Tryd.ntmps31
  go_wp2_with (go_at_call 13; refine (PN.out _).mono ?_; rintro e w1 ⟨A, c, rfl, hV, hb⟩; have hk := blk_below (blk_new w _) hb; have PK := Aside0.mk hk; clear hk; have PV := Aside0.mk hV; have PB := Aside0.mk hb; clear hb hV)
  obtain ⟨o, ho⟩ : ∃ o, Obj.cells #[.int .u8 27, .slice A s.size c, .slice none 0 0] 45 = o := ⟨_, rfl⟩
  have hlt : w.heap.size < w1.heap.size := node_lt (below_size PB.out)
  have hk := blk_alloc PK.out o
  have z0 := (blk_cell hk 0).trans rfl
  have z1 := (blk_cell hk 1).trans rfl
  have z2 := (blk_cell hk 2).trans rfl
  have y0 := blk_frozen hk 0
  have y1 := blk_frozen hk 1
  have y2 := blk_frozen hk 2
  have hn := blk_new w1 o
  rw [← ho] at hn
  have x0 := (blk_cell hn 0).trans rfl
  have x1 := (blk_cell hn 1).trans rfl
  have x2 := (blk_cell hn 2).trans rfl
  have PK2 := Aside0.mk hk
  have PV2 := Aside0.mk (Kd.V_alloc PV.out o)
  have PB2 := Aside0.mk (below_alloc PB.out o)
  rw [ho] at x0 x1 x2 ⊢
  generalize w1.alloc o = W at z0 z1 z2 y0 y1 y2 x0 x1 x2 PK2 PV2 PB2 ⊢
  have hne : w.heap.size ≠ w1.heap.size := Nat.ne_of_lt hlt
  have hne2 := hne.symm
  clear hk hn ho
  go_region
  all_goals (
   go_wp2
   refine bodyPost_ret (results_ct rfl _ _ w.heap.size 45 #[.int .u8 27, .slice A s.size c, .slice none 0 0] (0, 0) _ rfl (blk_drew (blk_put (blk_put (blk_put PK2.out 0 _ rfl) 1 _ rfl) 2 _ rfl)) Tryd.underlying45 rfl (by kernel_rfl)) rfl ?_
   exact ⟨_, _, by first | rfl | simp [*], by first | exact Kd.V_drew (node_V (node_W PV2.out) _ _ _) | exact node_V (node_W PV2.out) _ _ _, by first | exact below_drew1 (node_B PB2.out _ _ _) | exact node_B PB2.out _ _ _⟩)
 ·go_enter Tryd.func31, Tryd.ntmps31
  go_wp2_with (go_at_call 13; refine (PN.out _).mono ?_; rintro e w1 ⟨A, c, rfl, hV, hb⟩; have hk := blk_below (blk_new w _) hb; have PK := Aside0.mk hk; clear hk; have PV := Aside0.mk hV; have PB := Aside0.mk hb; clear hb hV)
  obtain ⟨o, ho⟩ : ∃ o, Obj.cells #[.int .u8 27, .slice A s.size c, .slice none 0 0] 45 = o := ⟨_, rfl⟩
  have hlt : w.heap.size < w1.heap.size := node_lt (below_size PB.out)
  have hk := blk_alloc PK.out o
  have z0 := (blk_cell hk 0).trans rfl
  have z1 := (blk_cell hk 1).trans rfl
  have z2 := (blk_cell hk 2).trans rfl
  have y0 := blk_frozen hk 0
  have y1 := blk_frozen hk 1
  have y2 := blk_frozen hk 2
  have hn := blk_new w1 o
  rw [← ho] at hn
  have x0 := (blk_cell hn 0).trans rfl
  have x1 := (blk_cell hn 1).trans rfl
  have x2 := (blk_cell hn 2).trans rfl
  have PK2 := Aside0.mk hk
  have PV2 := Aside0.mk (Kd.V_alloc PV.out o)
  have PB2 := Aside0.mk (below_alloc PB.out o)
  rw [ho] at x0 x1 x2 ⊢
  generalize w1.alloc o = W at z0 z1 z2 y0 y1 y2 x0 x1 x2 PK2 PV2 PB2 ⊢
  have hne : w.heap.size ≠ w1.heap.size := Nat.ne_of_lt hlt
  have hne2 := hne.symm
  clear hk hn ho
  go_region_held3 (fun w' => w'.cell? ⟨w1.heap.size, 0, none⟩ = some (.int .u8 27) ∧ w'.cell? ⟨w1.heap.size, 1, none⟩ = some (.slice A s.size c) ∧ w'.cell? ⟨w1.heap.size, 2, none⟩ = some (.slice none 0 0)) (go_keep) (first | (go_at_call 32; refine (PW.out _).mono ?_; rintro e w' ⟨rfl, rfl⟩))
  all_goals (
   go_wp2
   refine bodyPost_ret (results_ct rfl _ _ w.heap.size 45 #[.int .u8 27, .slice A s.size c, .slice none 0 0] (0, 0) _ rfl (blk_put (blk_put (blk_put (blk_drew PK2.out) 0 _ rfl) 1 _ rfl) 2 _ rfl) Tryd.underlying45 rfl (by kernel_rfl)) rfl ?_
   exact ⟨_, _, by first | rfl | simp [*], by first | exact Kd.V_drew (node_V (node_W PV2.out) _ _ _) | exact node_V (node_W PV2.out) _ _ _, by first | exact below_drew1 (node_B PB2.out _ _ _) | exact node_B PB2.out _ _ _⟩)
end Go.Proofs.YtncanijjnhkgbaaDoor.PMsgsUnlike
namespace Go.Proofs.YtncanijjnhkgbaaDoor.PMsgsUnlike
open Go.RowKit Go.Proofs.YtncanijjnhkgbaaDoorW.PrintWords Go.Proofs.YtncanijjnhkgbaaDoorW.PrintLast Go.Proofs.YtncanijjnhkgbaaDoorW.PrintMore
theorem wordB_eq (s : ByteArray) : wordB s = (genS s && lenB s) := by
 unfold wordB lenB
 rw [Bool.and_comm]
theorem text_FK {W : World} {e base : Nat} {ok : Nat → Prop} {A : Option Addr} {c : Nat} {s : ByteArray} (h : Kd.V (Kd.int .u8) e W base ok (.slice A s.size c) (bytesOf s)) : Kd.FK k45 W ok (textN s) [.int .u8 27, .slice A s.size c, .slice none 0 0] := by
 obtain ⟨h1, h2, h3⟩ := Kd.V_at h
 have h4 := k45_mkF W ok (textN s) (A1 := A) (c1 := c) (by show (bytesOf s).length ≤ c; omega) h3 (A2 := none) (c2 := 0) (Nat.le_refl _) (Kd.F_nil _ _ _)
 have hb : (textN s).f1.length = s.size := bytesOf_length s
 rw [hb] at h4
 exact h4
theorem list_far {w wr w1 w2 : World} {o : Obj} {v : Value} {xs : List S45} {a b : Obj} (hN : Kd.N k45 45 wr w.heap.size (fun k => w.heap.size + 1 < k) v xs) (h0 : wr.heap[w.heap.size]? = some a) (h1 : wr.heap[w.heap.size + 1]? = some b) (hb : Below wr.heap.size wr w1) (u : Value)
  (hg : (w1.alloc o).grownBy w2 v.ownBlock) : w2.heap[w.heap.size]? = some a ∧ w2.heap[w.heap.size + 1]? = some b := by
 have g0 := blk_alloc (blk_below h0 hb) o
 have g1 := blk_alloc (blk_below h1 hb) o
 refine ⟨(hg.block _ (blk_lt g0) (fun he => ?_)).trans g0, (hg.block _ (blk_lt g1) (fun he => ?_)).trans g1⟩
 ·have := hN.1 _ he.symm
  omega
 ·have := hN.1 _ he.symm
  omega
set_option maxHeartbeats 4000000 in
theorem list_calls (A0 : Option Addr) (c0 : Nat) (l : List ByteArray) (w : World) (hr : Kd.C Kd.string w A0 l.length l) (hl : l.length ≤ 1048576) (hs : ∀ s ∈ l, s.size ≤ 1048576) :
  Calls Tryd.prog 33 #[.int .u8 48, .slice A0 l.length c0, .func (.func 31) #[] #[]] w fun e w' => ∃ v : Value, e = .returned (.tuple #[.agg #[.int .u8 (if l.all wordB = true then 48 else 0), .slice none 0 0, v], .bool (l.all wordB)]) ∧ Kd.V k45 45 w' w.heap.size (fun k => w.heap.size ≤ k) v (if l.all wordB = true then l.map textN else []) ∧ Below w.heap.size w w' := by
 have PR := Aside0.mk hr
 have PS := Aside0.mk hs
 obtain ⟨n, hn⟩ : ∃ n, n = l.length := ⟨_, rfl⟩
 have PN := Aside0.mk hn
 rw [← hn] at hl ⊢
 obtain ⟨P, hP⟩ : ∃ P, P = l.all wordB := ⟨_, rfl⟩
 obtain ⟨T, hT⟩ : ∃ T : Int, T = if P = true then 48 else 0 := ⟨_, rfl⟩
 obtain ⟨R, hR⟩ : ∃ R, R = if P = true then l.map textN else [] := ⟨_, rfl⟩
 rw [← hP, ← hT, ← hR]
 have PP := Aside0.mk (And.intro hP (And.intro hT hR))
 clear hr hs hn hP hT hR
 go_enter Tryd.func33, Tryd.ntmps33
 go_wp2
 go_loopg [17] n (fun g v17 wx => ∃ (i : Nat) (kv : Value), i + g = n ∧ v17 = .int .i64 i ∧ (∀ s ∈ l.take i, wordB s = true) ∧ wx.heap[w.heap.size]? = some (.cells #[.int .u8 0, .slice none 0 0, .slice none 0 0] 45) ∧ wx.heap[w.heap.size + 1]? = some (.cells #[.int .u8 48, .slice none 0 0, kv] 45) ∧ Kd.N k45 45 wx w.heap.size (fun k => w.heap.size + 1 < k) kv ((l.take i).map textN) ∧ Below w.heap.size w wx)
 case atStart =>
  refine ⟨0, .slice none 0 0, by omega, rfl, by simp, blk_alloc (blk_new _ _) _, ?_, by simpa using Kd.N_nil _ _ _ _ _, below_alloc (below_alloc (Below.refl _ _) _) _⟩
  have h := blk_new (w.alloc (.cells #[.int .u8 0, .slice none 0 0, .slice none 0 0] 45)) (.cells #[.int .u8 48, .slice none 0 0, .slice none 0 0] 45)
  simp only [World.alloc, Array.size_push] at h ⊢
  exact h
 case round =>
  obtain ⟨i, kv, hig, rfl, hall, hk0, hk1, hN, hb⟩ := hrel
  cases gk with
  | zero =>
   obtain rfl : i = n := by omega
   have hP : P = true := by
    rw [PN.out, List.take_length] at hall
    rw [PP.out.1]
    exact List.all_eq_true.2 hall
   obtain ⟨-, hT, hR⟩ := PP.out
   rw [if_pos hP] at hT hR
   subst hP hT hR
   have hle : (l.take i).map textN = l.map textN := by rw [PN.out, List.take_length]
   rw [hle] at hN
   obtain ⟨Ak, ck, rfl⟩ := Kd.N_slice hN
   have hml : (l.map textN).length = i := by rw [List.length_map, ← PN.out]
   rw [hml] at hN hk1
   have z0 := (blk_cell hk0 0).trans rfl
   have z1 := (blk_cell hk0 1).trans rfl
   have z2 := (blk_cell hk0 2).trans rfl
   have y0 := blk_frozen hk0 0
   have y1 := blk_frozen hk0 1
   have y2 := blk_frozen hk0 2
   have x0 := (blk_cell hk1 0).trans rfl
   have x1 := (blk_cell hk1 1).trans rfl
   have x2 := (blk_cell hk1 2).trans rfl
   have PK := Aside0.mk hk0
   have PV := Aside0.mk hN
   have PB := Aside0.mk hb
   clear hk0 hk1 hN hb hall hig hle hml
   go_wp2
   refine bodyPost_ret (results_ct rfl _ _ w.heap.size 45 #[.int .u8 48, .slice none 0 0, .slice Ak i ck] (0, 0) _ rfl (blk_put (blk_put (blk_put PK.out 0 _ rfl) 1 _ rfl) 2 _ rfl) Tryd.underlying45 rfl (by kernel_rfl)) rfl ?_
   have hne : ∀ k, w.heap.size + 1 < k → k ≠ w.heap.size := fun k hk => by omega
   have hN2 := Kd.N_far (p := ⟨w.heap.size, 2, none⟩) (Kd.N_far (p := ⟨w.heap.size, 1, none⟩) (Kd.N_far (p := ⟨w.heap.size, 0, none⟩) PV.out hne (.int .u8 48)) hne (.slice none 0 0)) hne (.slice Ak i ck)
   exact ⟨_, rfl, Kd.V_mono (Kd.N_V hN2) (fun k hk => by omega), below_set (below_set (below_set PB.out (Nat.le_refl _)) (Nat.le_refl _)) (Nat.le_refl _)⟩
  | succ g =>
   have hil : i < l.length := by rw [← PN.out]; omega
   have hin : i < n := by omega
   have hC := Kd.C_below PR.out hb
   obtain ⟨ad, rfl, hcell⟩ := Kd.at_string hC (i : Int) (by omega) (by omega)
   obtain ⟨s, hsl⟩ : ∃ s, s = l[i] := ⟨_, rfl⟩
   have hx : rdOf ByteArray.empty l (i : Int) = s := by
    unfold rdOf
    rw [Int.toNat_natCast, List.getD_eq_getElem?_getD, List.getElem?_eq_getElem hil, hsl]
    rfl
   rw [hx, Int.toNat_natCast] at hcell
   have hm : s ∈ l := by rw [hsl]; exact List.getElem_mem hil
   have PO := Aside0.mk (fun W => of_calls s (PS.out s hm) W)
   have hlt : w.heap.size + 2 ≤ wr.heap.size := blk_lt hk1
   have ht : l.take (i + 1) = l.take i ++ [s] := by rw [List.take_succ_eq_append_getElem hil, ← hsl]
   obtain ⟨Ak, ck, rfl⟩ := Kd.N_slice hN
   have hw1 : wrap64 ((i : Int) + 1) = ((i + 1 : Nat) : Int) := by unfold wrap64; omega
   by_cases hW : wordB s = true
   ·have hW2 : (genS s && lenB s) = true := by rw [← wordB_eq]; exact hW
    rw [hW2] at PO
    have hall2 : ∀ x ∈ l.take (i + 1), wordB x = true := by
     rw [ht]
     intro x hx
     rcases List.mem_append.1 hx with h | h
     ·exact hall x h
     ·rw [List.mem_singleton.1 h]; exact hW
    have hm2 : (l.take (i + 1)).map textN = (l.take i).map textN ++ [textN s] := by rw [ht, List.map_append]; rfl
    have hml : ((l.take i).map textN).length = i := by rw [List.length_map, List.length_take]; omega
    rw [hml] at hN hk1
    have hml2 : ((l.take (i + 1)).map textN).length = i + 1 := by rw [List.length_map, List.length_take]; omega
    have PM := Aside0.mk hml2
    have PA := Aside0.mk (And.intro hall2 (And.intro hm2 (And.intro hml (And.intro hk0 (And.intro hk1 (And.intro hN (And.intro hb (And.intro hlt hl))))))))
    clear hk0 hk1 hN hb hall hx hsl hm ht hW hW2 hC hil hlt hall2 hm2 hml hml2
    go_wp2_with (first
     | (go_at_call 31; refine (PO.out _).mono ?_; rintro e w1 ⟨A, c, rfl, hV, hb⟩; have hk := blk_below PA.out.2.2.2.2.1 hb; have hlt := blk_lt hk; have hne := Nat.ne_of_lt hlt; have x2 := (blk_cell hk 2).trans rfl; have PV := Aside0.mk hV; have PB := Aside0.mk hb; clear hk hV hb)
     | ((with_reducible refine gate_builtin (b := .append) rfl ?_); at_builtin; refine Kd.N_append k45 (w0 := w) (W := w1.alloc (.cells #[.int .u8 27, .slice A s.size c, .slice none 0 0] 45)) w.heap.size rfl _ _ 43 45 (.agg #[.int .u8 0, .slice none 0 0, .slice none 0 0]) 56 rfl Tryd.underlying43 info45 rfl (by decide) (by decide) (.slice Ak i ck) ((l.take i).map textN) (textN s) [.int .u8 27, .slice A s.size c, .slice none 0 0] (fun k => w.heap.size + 1 < k) (fun k => wr.heap.size ≤ k) rfl ?hx ?hp ?hokp ?hfr ?hO ?hB ?hba ?hle ?_; (case hx => (show Value.slice (some ⟨w1.heap.size + 1, 0, none⟩) 1 1 = _; simp only [World.alloc, Array.size_push])); (case hp => exact text_FK (Kd.V_alloc PV.out _)); (case hokp => exact (fun k hk => ⟨Nat.lt_of_lt_of_le (Nat.lt_of_succ_le PA.out.2.2.2.2.2.2.2.1) hk, fun he => absurd (Kd.N_lt PA.out.2.2.2.2.2.1 k he.symm) (Nat.not_lt.2 hk)⟩)); (case hfr => exact (fun k hk => Nat.lt_trans hlt (node_lt hk))); (case hO => exact Kd.N_alloc (Kd.N_below PA.out.2.2.2.2.2.1 PB.out) _); (case hB => exact below_alloc (below_step PA.out.2.2.2.2.2.2.1 PB.out) _); (case hba => exact below_size (below_alloc (below_step PA.out.2.2.2.2.2.2.1 PB.out) _)); (case hle => (have h1 := PA.out.2.2.1; have h2 := PA.out.2.2.2.2.2.2.2.2; omega)); intro v1 w2 hN2 hb2 hg2 hat2; have hf := list_far PA.out.2.2.2.2.2.1 PA.out.2.2.2.1 PA.out.2.2.2.2.1 PB.out (.bool true) hg2; rw [← PA.out.2.1] at hN2; obtain ⟨Av, cv, rfl⟩ := Kd.N_slice hN2; rw [PM.out] at hN2 ⊢; have u2 := (blk_cell hf.2 2).trans rfl; have f2 := blk_frozen hf.2 2; have PQ := Aside0.mk (And.intro hf (And.intro hN2 hb2)); clear hf hN2 hb2 hg2 hat2))
    go_roundg g
    case measure => omega
    case rel =>
     obtain ⟨⟨hk0, hk1⟩, hN2, hb2⟩ := PQ.out
     have hne : ∀ k, w.heap.size + 1 < k → k ≠ w.heap.size + 1 := fun k hk => Nat.ne_of_gt hk
     exact ⟨i + 1, _, by omega, by first | rfl | rw [hw1], PA.out.1, blk_far hk0 (show w.heap.size ≠ w.heap.size + 1 by omega) _, blk_put hk1 2 _ rfl, Kd.N_far (p := ⟨w.heap.size + 1, 2, none⟩) hN2 hne _, below_set hb2 (show w.heap.size ≤ w.heap.size + 1 by omega)⟩
   ·have hW2 : (genS s && lenB s) = false := by rw [← wordB_eq]; exact Bool.eq_false_iff.2 hW
    rw [hW2] at PO
    have hP : P = false := by
     rw [PP.out.1, Bool.eq_false_iff]
     exact fun h => hW (List.all_eq_true.1 h s hm)
    obtain ⟨-, hT, hR⟩ := PP.out
    rw [hP, if_neg (by decide)] at hT hR
    subst hP hT hR
    have PK := Aside0.mk hk0
    have PB := Aside0.mk hb
    clear hk0 hk1 hN hb hall hig hx hsl hm ht hW hW2 hC hil hw1 hlt
    go_wp2_with (go_at_call 31; refine (PO.out _).mono ?_; rintro e w1 ⟨A, c, rfl, hV, hb⟩; have hk := blk_below PK.out hb; have hlt := blk_lt hk; have hne := Nat.ne_of_lt hlt; have z0 := (blk_cell hk 0).trans rfl; have z1 := (blk_cell hk 1).trans rfl; have z2 := (blk_cell hk 2).trans rfl; have y0 := blk_frozen hk 0; have y1 := blk_frozen hk 1; have y2 := blk_frozen hk 2; have PK2 := Aside0.mk hk; have PB2 := Aside0.mk (below_step PB.out hb); clear hk hV hb)
    refine bodyPost_ret (results_ct rfl _ _ w.heap.size 45 #[.int .u8 0, .slice none 0 0, .slice none 0 0] (0, 0) _ rfl (blk_alloc (blk_put (blk_put (blk_put PK2.out 0 _ rfl) 1 _ rfl) 2 _ rfl) _) Tryd.underlying45 rfl (by kernel_rfl)) rfl ?_
    exact ⟨_, rfl, Kd.V_nil _ _ _ _ _, below_alloc (below_set (below_set (below_set PB2.out (Nat.le_refl _)) (Nat.le_refl _)) (Nat.le_refl _)) _⟩
end Go.Proofs.YtncanijjnhkgbaaDoor.PMsgsUnlike
namespace Go.Proofs.YtncanijjnhkgbaaDoor.PMsgsUnlike
open Go.RowKit Go.Proofs.YtncanijjnhkgbaaDoorW.PrintWords Go.Proofs.YtncanijjnhkgbaaDoorW.PrintLast Go.Proofs.YtncanijjnhkgbaaDoorW.PrintMore
theorem seq_far {w wr w1 w2 : World} {o : Obj} {v : Value} {xs : List S45} {a b : Obj} {B0 : Nat} (hN : Kd.N k45 45 wr w.heap.size (fun k => (B0 ≤ k ∧ k < w.heap.size) ∨ w.heap.size + 1 < k) v xs) (h0 : wr.heap[w.heap.size]? = some a) (h1 : wr.heap[w.heap.size + 1]? = some b) (hb : Below wr.heap.size wr w1)
  (hg : (w1.alloc o).grownBy w2 v.ownBlock) : w2.heap[w.heap.size]? = some a ∧ w2.heap[w.heap.size + 1]? = some b := by
 have g0 := blk_alloc (blk_below h0 hb) o
 have g1 := blk_alloc (blk_below h1 hb) o
 refine ⟨(hg.block _ (blk_lt g0) (fun he => ?_)).trans g0, (hg.block _ (blk_lt g1) (fun he => ?_)).trans g1⟩
 ·have := hN.1 _ he.symm
  omega
 ·have := hN.1 _ he.symm
  omega
def cellsOf (n : S45) (A : Option Addr) (c : Nat) (B : Option Addr) (d : Nat) : List Value := [.int .u8 n.f0, .slice A n.f1.length c, .slice B n.f2.length d]
set_option maxHeartbeats 4000000 in
theorem seq_calls (n : Nat) (hl : n ≤ 1000) (av : Addr) (cv : Nat) (X : Nat → Value) (NN : Nat → S45) (BB : Nat → Bool) (B0 : Nat) (w : World) (hX : ∀ i, i < n → w.cell? (av.add i) = some (X i))
  (hH : ∀ i, i < n → ∀ W, Below w.heap.size w W → Calls Tryd.prog 13 #[X i] W fun e w' => ∃ A c B d, e = .returned (.tuple #[.agg #[.int .u8 (NN i).f0, .slice A (NN i).f1.length c, .slice B (NN i).f2.length d], .bool (BB i)]) ∧ Kd.FK k45 w' (fun k => (B0 ≤ k ∧ k < w.heap.size) ∨ W.heap.size ≤ k) (NN i) (cellsOf (NN i) A c B d) ∧ Below W.heap.size W w') (hB0 : B0 ≤ w.heap.size) :
  Calls Tryd.prog 34 #[.int .u8 48, .slice (some av) n cv] w fun e w' => ∃ v : Value, e = .returned (.tuple #[.agg #[.int .u8 (if (List.range n).all BB = true then 48 else 0), .slice none 0 0, v], .bool ((List.range n).all BB)]) ∧ Kd.V k45 45 w' w.heap.size (fun k => B0 ≤ k) v (if (List.range n).all BB = true then (List.range n).map NN else []) ∧ Below w.heap.size w w' := by
 have PX := Aside0.mk hX
 have PH := Aside0.mk hH
 obtain ⟨P, hP⟩ : ∃ P, P = (List.range n).all BB := ⟨_, rfl⟩
 obtain ⟨T, hT⟩ : ∃ T : Int, T = if P = true then 48 else 0 := ⟨_, rfl⟩
 obtain ⟨R, hR⟩ : ∃ R, R = if P = true then (List.range n).map NN else [] := ⟨_, rfl⟩
 rw [← hP, ← hT, ← hR]
 have PP := Aside0.mk (And.intro hP (And.intro hT hR))
 clear hX hH hP hT hR
 go_enter Tryd.func34, Tryd.ntmps34
 go_wp2
 go_loopg [15] n (fun g v15 wx => ∃ (i : Nat) (kv : Value), i + g = n ∧ v15 = .int .i64 i ∧ (∀ j, j < i → BB j = true) ∧ wx.heap[w.heap.size]? = some (.cells #[.int .u8 0, .slice none 0 0, .slice none 0 0] 45) ∧ wx.heap[w.heap.size + 1]? = some (.cells #[.int .u8 48, .slice none 0 0, kv] 45) ∧ Kd.N k45 45 wx w.heap.size (fun k => (B0 ≤ k ∧ k < w.heap.size) ∨ w.heap.size + 1 < k) kv ((List.range i).map NN) ∧ Below w.heap.size w wx)
 case atStart =>
  refine ⟨0, .slice none 0 0, by omega, rfl, fun j hj => by omega, blk_alloc (blk_new _ _) _, ?_, by simpa using Kd.N_nil _ _ _ _ _, below_alloc (below_alloc (Below.refl _ _) _) _⟩
  have h := blk_new (w.alloc (.cells #[.int .u8 0, .slice none 0 0, .slice none 0 0] 45)) (.cells #[.int .u8 48, .slice none 0 0, .slice none 0 0] 45)
  simp only [World.alloc, Array.size_push] at h ⊢
  exact h
 case round =>
  obtain ⟨i, kv, hig, rfl, hall, hk0, hk1, hN, hb⟩ := hrel
  cases gk with
  | zero =>
   obtain rfl : i = n := by omega
   have hP : P = true := by
    rw [PP.out.1]
    exact List.all_eq_true.2 (fun j hj => hall j (List.mem_range.1 hj))
   obtain ⟨-, hT, hR⟩ := PP.out
   rw [if_pos hP] at hT hR
   subst hP hT hR
   obtain ⟨Ak, ck, rfl⟩ := Kd.N_slice hN
   have hml : ((List.range i).map NN).length = i := by rw [List.length_map, List.length_range]
   rw [hml] at hN hk1
   have z0 := (blk_cell hk0 0).trans rfl
   have z1 := (blk_cell hk0 1).trans rfl
   have z2 := (blk_cell hk0 2).trans rfl
   have y0 := blk_frozen hk0 0
   have y1 := blk_frozen hk0 1
   have y2 := blk_frozen hk0 2
   have x0 := (blk_cell hk1 0).trans rfl
   have x1 := (blk_cell hk1 1).trans rfl
   have x2 := (blk_cell hk1 2).trans rfl
   have PK := Aside0.mk hk0
   have PV := Aside0.mk hN
   have PB := Aside0.mk hb
   clear hk0 hk1 hN hb hall hig hml
   go_wp2
   refine bodyPost_ret (results_ct rfl _ _ w.heap.size 45 #[.int .u8 48, .slice none 0 0, .slice Ak i ck] (0, 0) _ rfl (blk_put (blk_put (blk_put PK.out 0 _ rfl) 1 _ rfl) 2 _ rfl) Tryd.underlying45 rfl (by kernel_rfl)) rfl ?_
   have hne : ∀ k, ((B0 ≤ k ∧ k < w.heap.size) ∨ w.heap.size + 1 < k) → k ≠ w.heap.size := fun k hk => by omega
   have hN2 := Kd.N_far (p := ⟨w.heap.size, 2, none⟩) (Kd.N_far (p := ⟨w.heap.size, 1, none⟩) (Kd.N_far (p := ⟨w.heap.size, 0, none⟩) PV.out hne (.int .u8 48)) hne (.slice none 0 0)) hne (.slice Ak i ck)
   exact ⟨_, rfl, Kd.V_mono (Kd.N_V hN2) (fun k hk => by omega), below_set (below_set (below_set PB.out (Nat.le_refl _)) (Nat.le_refl _)) (Nat.le_refl _)⟩
  | succ g =>
   have hin : i < n := by omega
   have hcell := (hb.cell (World.block_lt_of_cell? _ _ (PX.out i hin))).trans (PX.out i hin)
   obtain ⟨x, hx⟩ : ∃ x, X i = x := ⟨_, rfl⟩
   rw [hx] at hcell
   have hO := PH.out i hin wr hb
   rw [hx] at hO
   have PO := Aside0.mk hO
   have hlt : w.heap.size + 2 ≤ wr.heap.size := blk_lt hk1
   have hw1 : wrap64 ((i : Int) + 1) = ((i + 1 : Nat) : Int) := by unfold wrap64; omega
   obtain ⟨Ak, ck, rfl⟩ := Kd.N_slice hN
   obtain ⟨m, hm⟩ : ∃ m, m = NN i := ⟨_, rfl⟩
   rw [← hm] at PO
   by_cases hW : BB i = true
   ·rw [hW] at PO
    have hall2 : ∀ j, j < i + 1 → BB j = true := fun j hj => by
     by_cases h : j = i
     ·rw [h]; exact hW
     ·exact hall j (by omega)
    have hm2 : (List.range (i + 1)).map NN = (List.range i).map NN ++ [m] := by rw [List.range_succ, List.map_append, hm]; rfl
    have hml : ((List.range i).map NN).length = i := by rw [List.length_map, List.length_range]
    have hml2 : ((List.range (i + 1)).map NN).length = i + 1 := by rw [List.length_map, List.length_range]
    rw [hml] at hN hk1
    have PM := Aside0.mk hml2
    have PA := Aside0.mk (And.intro hall2 (And.intro hm2 (And.intro hml (And.intro hk0 (And.intro hk1 (And.intro hN (And.intro hb (And.intro hlt hl))))))))
    have PZ := Aside0.mk hB0
    clear hk0 hk1 hN hb hall hx hO hm hW hlt hall2 hm2 hml hml2 hB0
    go_wp2_with (first
     | (go_at_call 13; refine PO.out.mono ?_; rintro e w1 ⟨A, c, B, d, rfl, hF, hb⟩; have hk := blk_below PA.out.2.2.2.2.1 hb; have hlt := blk_lt hk; have hne := Nat.ne_of_lt hlt; have x2 := (blk_cell hk 2).trans rfl; have PF := Aside0.mk hF; have PB := Aside0.mk hb; clear hk hF hb)
     | ((with_reducible refine gate_builtin (b := .append) rfl ?_); at_builtin; refine Kd.N_append k45 (w0 := w) (W := w1.alloc (.cells #[.int .u8 m.f0, .slice A m.f1.length c, .slice B m.f2.length d] 45)) w.heap.size rfl _ _ 43 45 (.agg #[.int .u8 0, .slice none 0 0, .slice none 0 0]) 56 rfl Tryd.underlying43 info45 rfl (by decide) (by decide) (.slice Ak i ck) ((List.range i).map NN) m (cellsOf m A c B d) (fun k => (B0 ≤ k ∧ k < w.heap.size) ∨ w.heap.size + 1 < k) (fun k => (B0 ≤ k ∧ k < w.heap.size) ∨ wr.heap.size ≤ k) rfl ?hx ?hp ?hokp ?hfr ?hO ?hB ?hba ?hle ?_; (case hx => (show Value.slice (some ⟨w1.heap.size + 1, 0, none⟩) 1 1 = _; simp only [World.alloc, Array.size_push])); (case hp => exact Kd.FK_below PF.out (below_alloc (Below.refl _ _) _)); (case hokp => exact (fun k hk => ⟨by have := PA.out.2.2.2.2.2.2.2.1; omega, fun he => by have h1 := Kd.N_lt PA.out.2.2.2.2.2.1 k he.symm; have h2 := Kd.N_base PA.out.2.2.2.2.2.1 k he.symm; omega⟩)); (case hfr => exact (fun k hk => .inr (Nat.lt_trans hlt (node_lt hk)))); (case hO => exact Kd.N_alloc (Kd.N_below PA.out.2.2.2.2.2.1 PB.out) _); (case hB => exact below_alloc (below_step PA.out.2.2.2.2.2.2.1 PB.out) _); (case hba => exact below_size (below_alloc (below_step PA.out.2.2.2.2.2.2.1 PB.out) _)); (case hle => (have h1 := PA.out.2.2.1; have h2 := PA.out.2.2.2.2.2.2.2.2; omega)); intro v1 w2 hN2 hb2 hg2 hat2; have hf := seq_far PA.out.2.2.2.2.2.1 PA.out.2.2.2.1 PA.out.2.2.2.2.1 PB.out hg2; rw [← PA.out.2.1] at hN2; obtain ⟨Av, cv, rfl⟩ := Kd.N_slice hN2; rw [PM.out] at hN2 ⊢; have u2 := (blk_cell hf.2 2).trans rfl; have f2 := blk_frozen hf.2 2; have PQ := Aside0.mk (And.intro hf (And.intro hN2 hb2)); clear hf hN2 hb2 hg2 hat2))
    go_roundg g
    case measure => omega
    case rel =>
     obtain ⟨⟨hk0, hk1⟩, hN2, hb2⟩ := PQ.out
     have hne : ∀ k, ((B0 ≤ k ∧ k < w.heap.size) ∨ w.heap.size + 1 < k) → k ≠ w.heap.size + 1 := fun k hk => by omega
     exact ⟨i + 1, _, by omega, by first | rfl | rw [hw1], PA.out.1, blk_far hk0 (show w.heap.size ≠ w.heap.size + 1 by omega) _, blk_put hk1 2 _ rfl, Kd.N_far (p := ⟨w.heap.size + 1, 2, none⟩) hN2 hne _, below_set hb2 (show w.heap.size ≤ w.heap.size + 1 by omega)⟩
   ·have hW2 : BB i = false := Bool.eq_false_iff.2 hW
    rw [hW2] at PO
    have hP : P = false := by
     rw [PP.out.1, Bool.eq_false_iff]
     exact fun h => hW (List.all_eq_true.1 h i (List.mem_range.2 hin))
    obtain ⟨-, hT, hR⟩ := PP.out
    rw [hP, if_neg (by decide)] at hT hR
    subst hP hT hR
    have PK := Aside0.mk hk0
    have PB := Aside0.mk hb
    clear hk0 hk1 hN hb hall hx hO hm hW hW2 hlt hw1 hB0
    go_wp2_with (go_at_call 13; refine PO.out.mono ?_; rintro e w1 ⟨A, c, B, d, rfl, hF, hb⟩; have hk := blk_below PK.out hb; have hlt := blk_lt hk; have hne := Nat.ne_of_lt hlt; have z0 := (blk_cell hk 0).trans rfl; have z1 := (blk_cell hk 1).trans rfl; have z2 := (blk_cell hk 2).trans rfl; have y0 := blk_frozen hk 0; have y1 := blk_frozen hk 1; have y2 := blk_frozen hk 2; have PK2 := Aside0.mk hk; have PB2 := Aside0.mk (below_step PB.out hb); clear hk hF hb)
    refine bodyPost_ret (results_ct rfl _ _ w.heap.size 45 #[.int .u8 0, .slice none 0 0, .slice none 0 0] (0, 0) _ rfl (blk_alloc (blk_put (blk_put (blk_put PK2.out 0 _ rfl) 1 _ rfl) 2 _ rfl) _) Tryd.underlying45 rfl (by kernel_rfl)) rfl ?_
    exact ⟨_, rfl, Kd.V_nil _ _ _ _ _, below_alloc (below_set (below_set (below_set PB2.out (Nat.le_refl _)) (Nat.le_refl _)) (Nat.le_refl _)) _⟩
end Go.Proofs.YtncanijjnhkgbaaDoor.PMsgsUnlike
namespace Go.Proofs.YtncanijjnhkgbaaDoor.PMsgsUnlike
open Go.RowKit Go.Proofs.YtncanijjnhkgbaaDoorW.PrintWords Go.Proofs.YtncanijjnhkgbaaDoorW.PrintLast Go.Proofs.YtncanijjnhkgbaaDoorW.PrintMore
theorem node_node (t : Int) (A : Option Addr) (n c : Nat) (B : Option Addr) (m d : Nat) (w : World) :
  Calls Tryd.prog 13 #[.iface 45 (.agg #[.int .u8 t, .slice A n c, .slice B m d])] w fun e w' => e = .returned (.tuple #[.agg #[.int .u8 t, .slice A n c, .slice B m d], .bool true]) ∧ Below w.heap.size w w' := by
 have ta0 : ∀ W : World, (Instr.typeAssert (.iface 45 (.agg #[.int .u8 t, .slice A n c, .slice B m d])) 20 45 true).run Tryd.prog W = .ok (.tuple #[.agg #[.int .u8 t, .slice A n c, .slice B m d], .bool true]) W := fun _ => by kernel_rfl
 go_enter Tryd.func13, Tryd.ntmps13
 go_wp2
 refine bodyPost_ret (results_ct rfl _ _ w.heap.size 45 #[.int .u8 t, .slice A n c, .slice B m d] (0, 0) _ rfl (blk_alloc (blk_new _ _) _) Tryd.underlying45 rfl (by kernel_rfl)) rfl ?_
 exact ⟨rfl, below_alloc (below_alloc (Below.refl _ _) _) _⟩
theorem blk_new1 (w : World) (a b : Obj) : ((w.alloc a).alloc b).heap[w.heap.size + 1]? = some b := by
 have h := blk_new (w.alloc a) b
 simp only [World.alloc, Array.size_push] at h ⊢
 exact h
theorem put_true (t : Int) (A : Option Addr) (n c : Nat) (B : Option Addr) (m d : Nat) (w : World) :
  Calls Tryd.prog 35 #[.agg #[.int .u8 t, .slice A n c, .slice B m d], .bool true] w fun e w' => e = .returned (.tuple #[.agg #[.int .u8 t, .slice A n c, .slice B m d], .int .i64 0]) ∧ Below w.heap.size w w' := by
 go_enter Tryd.func35, Tryd.ntmps35
 go_wp2
 refine bodyPost_ret (results_ct rfl _ _ (w.heap.size + 1) 45 #[.int .u8 t, .slice A n c, .slice B m d] (0, 0) _ rfl (blk_new1 _ _ _) Tryd.underlying45 rfl (by kernel_rfl)) rfl ?_
 exact ⟨rfl, below_alloc (below_alloc (Below.refl _ _) _) _⟩
theorem put_false (t : Int) (A : Option Addr) (n c : Nat) (B : Option Addr) (m d : Nat) (w : World) :
  Calls Tryd.prog 35 #[.agg #[.int .u8 t, .slice A n c, .slice B m d], .bool false] w fun e w' => e = .returned (.tuple #[.agg #[.int .u8 0, .slice none 0 0, .slice none 0 0], .int .i64 91]) ∧ Below w.heap.size w w' := by
 go_enter Tryd.func35, Tryd.ntmps35
 go_wp2
 refine bodyPost_ret (results_ct rfl _ _ (w.heap.size + 1) 45 #[.int .u8 0, .slice none 0 0, .slice none 0 0] (0, 0) _ rfl (blk_new1 _ _ _) Tryd.underlying45 rfl (by kernel_rfl)) rfl ?_
 exact ⟨rfl, below_alloc (below_alloc (Below.refl _ _) _) _⟩
def pairX (x0 x1 : Value) (i : Nat) : Value := if i = 0 then x0 else x1
def pairN (n0 n1 : S45) (i : Nat) : S45 := if i = 0 then n0 else n1
theorem seq_nodes (w : World) (gv cv : Nat) (n0 n1 : S45) (A : Option Addr) (c : Nat) (B : Option Addr) (d : Nat) (A' : Option Addr) (c' : Nat) (B' : Option Addr) (d' : Nat) (B0 : Nat) (hB0 : B0 ≤ w.heap.size)
  (h0 : w.cell? ⟨gv, 0, none⟩ = some (.iface 45 (.agg #[.int .u8 n0.f0, .slice A n0.f1.length c, .slice B n0.f2.length d]))) (h1 : w.cell? ⟨gv, 1, none⟩ = some (.iface 45 (.agg #[.int .u8 n1.f0, .slice A' n1.f1.length c', .slice B' n1.f2.length d'])))
  (f0 : Kd.FK k45 w (fun k => B0 ≤ k) n0 (cellsOf n0 A c B d)) (f1 : Kd.FK k45 w (fun k => B0 ≤ k) n1 (cellsOf n1 A' c' B' d')) :
  Calls Tryd.prog 34 #[.int .u8 48, .slice (some ⟨gv, 0, none⟩) 2 cv] w fun e w' => ∃ v : Value, e = .returned (.tuple #[.agg #[.int .u8 48, .slice none 0 0, v], .bool true]) ∧ Kd.V k45 45 w' w.heap.size (fun k => B0 ≤ k) v [n0, n1] ∧ Below w.heap.size w w' := by
 refine seq_calls 2 (by decide) ⟨gv, 0, none⟩ cv (pairX (.iface 45 (.agg #[.int .u8 n0.f0, .slice A n0.f1.length c, .slice B n0.f2.length d])) (.iface 45 (.agg #[.int .u8 n1.f0, .slice A' n1.f1.length c', .slice B' n1.f2.length d']))) (pairN n0 n1) (fun _ => true) B0 w ?_ ?_ hB0
 ·intro i hi
  have : i = 0 ∨ i = 1 := by omega
  rcases this with rfl | rfl
  ·exact h0
  ·exact h1
 ·intro i hi W hb
  have : i = 0 ∨ i = 1 := by omega
  rcases this with rfl | rfl
  ·refine (node_node n0.f0 A n0.f1.length c B n0.f2.length d W).mono ?_
   rintro e w' ⟨rfl, hb'⟩
   exact ⟨A, c, B, d, rfl, Kd.FK_mono (Kd.FK_below (Kd.FK_bound f0) (hb.trans (hb'.mono hb.size))) (fun k hk => .inl hk), hb'⟩
  ·refine (node_node n1.f0 A' n1.f1.length c' B' n1.f2.length d' W).mono ?_
   rintro e w' ⟨rfl, hb'⟩
   exact ⟨A', c', B', d', rfl, Kd.FK_mono (Kd.FK_below (Kd.FK_bound f1) (hb.trans (hb'.mono hb.size))) (fun k hk => .inl hk), hb'⟩
end Go.Proofs.YtncanijjnhkgbaaDoor.PMsgsUnlike
namespace Go.Proofs.YtncanijjnhkgbaaDoor.PMsgsUnlike
open Go.RowKit Go.Proofs.YtncanijjnhkgbaaDoorW.PrintWords Go.Proofs.YtncanijjnhkgbaaDoorW.PrintLast Go.Proofs.YtncanijjnhkgbaaDoorW.PrintMore
def princG (ok : Bool) (r : ByteArray) (l : List ByteArray) : Int × List S45 × Int := if ok = true then (48, princK r l, 0) else (0, [], 91)
theorem princ_cases (a b : Bool) (n : Nat) : (a = true ∧ b = true ∧ 0 < n ∧ n ≤ 8) ∨ (a = false) ∨ (a = true ∧ b = false) ∨ (a = true ∧ b = true ∧ n = 0) ∨ (a = true ∧ b = true ∧ 8 < n) := by
 cases a <;> cases b <;> simp <;> omega
theorem princ_seq (w2 : World) (o : Obj) (r : ByteArray) (kids : List S45) (T : Int) (A1 : Option Addr) (c1 : Nat) (A2 : Option Addr) (c2 : Nat) (e1 e2 b1 b2 B0 : Nat) (hB0 : B0 ≤ w2.heap.size)
  (h1 : Kd.V (Kd.int .u8) e1 w2 b1 (fun k => B0 ≤ k) (.slice A1 r.size c1) (bytesOf r)) (h2 : Kd.V k45 e2 w2 b2 (fun k => B0 ≤ k) (.slice A2 kids.length c2) kids) (W : World)
  (hW : W = (w2.alloc o).alloc (.cells #[.iface 45 (.agg #[.int .u8 27, .slice A1 r.size c1, .slice none 0 0]), .iface 45 (.agg #[.int .u8 T, .slice none 0 0, .slice A2 kids.length c2])] 20)) :
  Calls Tryd.prog 34 #[.int .u8 48, .slice (some ⟨w2.heap.size + 1, 0, none⟩) 2 2] W fun e w' => ∃ v : Value, e = .returned (.tuple #[.agg #[.int .u8 48, .slice none 0 0, v], .bool true]) ∧ Kd.V k45 45 w' W.heap.size (fun k => B0 ≤ k) v [textN r, ⟨T, [], kids⟩] ∧ Below W.heap.size W w' := by
 have hk : W.heap[w2.heap.size + 1]? = some (.cells #[.iface 45 (.agg #[.int .u8 27, .slice A1 r.size c1, .slice none 0 0]), .iface 45 (.agg #[.int .u8 T, .slice none 0 0, .slice A2 kids.length c2])] 20) := by rw [hW]; exact blk_new1 _ _ _
 have hb : (textN r).f1.length = r.size := bytesOf_length r
 have f0 : Kd.FK k45 W (fun k => B0 ≤ k) (textN r) [.int .u8 27, .slice A1 r.size c1, .slice none 0 0] := by
  rw [hW]
  exact text_FK (Kd.V_alloc (Kd.V_alloc h1 _) _)
 have f1 : Kd.FK k45 W (fun k => B0 ≤ k) ⟨T, [], kids⟩ (cellsOf ⟨T, [], kids⟩ none 0 A2 c2) := by
  rw [hW]
  obtain ⟨_, h3, h4⟩ := Kd.V_at (Kd.V_alloc (Kd.V_alloc h2 o) (.cells #[.iface 45 (.agg #[.int .u8 27, .slice A1 r.size c1, .slice none 0 0]), .iface 45 (.agg #[.int .u8 T, .slice none 0 0, .slice A2 kids.length c2])] 20))
  exact k45_mkF _ _ ⟨T, [], kids⟩ (A1 := none) (c1 := 0) (Nat.le_refl _) (Kd.F_nil _ _ _) (A2 := A2) (c2 := c2) h3 h4
 refine seq_nodes W (w2.heap.size + 1) 2 (textN r) ⟨T, [], kids⟩ A1 c1 none 0 none 0 A2 c2 B0 ?_ ?_ ?_ ?_ f1
 ·rw [hW]
  simp only [World.alloc, Array.size_push]
  omega
 ·rw [hb]
  exact (blk_cell hk 0).trans rfl
 ·exact (blk_cell hk 1).trans rfl
 ·unfold cellsOf
  rw [hb]
  exact f0
set_option maxHeartbeats 8000000 in
theorem princ_calls (r : ByteArray) (A0 : Option Addr) (c0 : Nat) (l : List ByteArray) (w : World) (hr : Kd.C Kd.string w A0 l.length l) (hl : l.length ≤ 1048576) (hrs : r.size ≤ 1048576) (hs : ∀ s ∈ l, s.size ≤ 1048576) :
  Calls Tryd.prog 15 #[.agg #[.string r, .slice A0 l.length c0]] w fun e w' => ∃ v : Value, e = .returned (.tuple #[.agg #[.int .u8 (princG (princOk r l) r l).1, .slice none 0 0, v], .int .i64 (princG (princOk r l) r l).2.2]) ∧ Kd.V k45 45 w' w.heap.size (fun k => w.heap.size + 1 < k) v (princG (princOk r l) r l).2.1 ∧ Below w.heap.size w w' := by
 have PO := Aside0.mk (fun W => of_calls r hrs W)
 have PL := Aside0.mk (fun W (hC : Kd.C Kd.string W A0 l.length l) => list_calls A0 c0 l W hC hl hs)
 have PR := Aside0.mk hr
 have hq : princOk r l = ((genS r && lenB r) && (l.all wordB && (decide (1 ≤ l.length) && decide (l.length ≤ 8)))) := by
  unfold princOk
  rw [wordB_eq]
 obtain ⟨kids, hkids⟩ : ∃ kids, kids = (if l.all wordB = true then l.map textN else []) := ⟨_, rfl⟩
 obtain ⟨T, hT⟩ : ∃ T : Int, T = (if l.all wordB = true then 48 else 0) := ⟨_, rfl⟩
 have PK := Aside0.mk (And.intro hkids hT)
 rw [← hkids, ← hT] at PL
 obtain ⟨a, ha⟩ : ∃ a, a = (genS r && lenB r) := ⟨_, rfl⟩
 obtain ⟨b, hb⟩ : ∃ b, b = l.all wordB := ⟨_, rfl⟩
 obtain ⟨n, hn⟩ : ∃ n, n = l.length := ⟨_, rfl⟩
 rw [← ha] at PO hq
 rw [← hb] at PL PK hq
 rw [← hn] at PL PR hq hl ⊢
 clear hr hrs hs hkids hT ha hb hn
 obtain ⟨G, hG⟩ : ∃ G, G = princG (princOk r l) r l := ⟨_, rfl⟩
 rw [← hG]
 have PG := Aside0.mk (And.intro hG hq)
 clear hG hq
 have PC := Aside0.mk (princ_cases a b n)
 have PW := Aside0.mk hl
 clear hl
 rcases PC.out with ⟨h1, h2, h3, h4⟩ | h1 | ⟨h1, h2⟩ | ⟨h1, h2, h3⟩ | ⟨h1, h2, h3⟩
 ·have hGe : G = (48, [textN r, ⟨T, [], kids⟩], 0) := by
   obtain ⟨g1, g2⟩ := PG.out
   obtain ⟨g3, g4⟩ := PK.out
   rw [h2, if_pos rfl] at g3 g4
   rw [g1, g2, h1, h2, decide_eq_true (show 1 ≤ n from h3), decide_eq_true h4, g3, g4]
   rfl
  have h5 : (n : Int) ≤ 8 := by omega
  rw [hGe]
  clear hGe PG PK
  dsimp only
  subst h1 h2
  go_enter Tryd.func15, Tryd.ntmps15
  go_wp2_with (first
   | (go_at_call 31; refine (PO.out _).mono ?_; rintro e w1 ⟨A1, c1, rfl, hV1, hb1⟩; have k0 := blk_below (blk_alloc (blk_new w _) _) hb1; have k1 := blk_below (blk_new1 w _ _) hb1; have q0 := blk_lt k0; have q1 := blk_lt k1; have n0 := Nat.ne_of_lt q0; have n1 := Nat.ne_of_lt q1; have s0 := (blk_cell k0 1).trans rfl; have P1 := Aside0.mk (And.intro k0 (And.intro k1 (And.intro hV1 hb1))); clear k0 k1 hV1 hb1)
   | (go_at_call 33; refine (PL.out _ (Kd.C_alloc (Kd.C_below PR.out (below_step (below_alloc (below_alloc (Below.refl _ _) _) _) P1.out.2.2.2)) _)).mono ?_; rintro e w2 ⟨v2, rfl, hV2, hb2⟩; obtain ⟨A2, c2, rfl⟩ := Kd.V_slice hV2; have k0 := blk_below (blk_alloc P1.out.1 _) hb2; have k1 := blk_below (blk_alloc P1.out.2.1 _) hb2; have k2 := blk_below (blk_new w1 _) hb2; have q2 := blk_lt k2; have n2 := Nat.ne_of_lt q2; have t0 := (blk_cell k2 0).trans rfl; have t1 := (blk_cell k2 1).trans rfl; have t2 := (blk_cell k2 2).trans rfl; have P2 := Aside0.mk (And.intro k0 (And.intro k1 (And.intro k2 (And.intro hV2 hb2)))); clear s0 k0 k1 k2 hV2 hb2)
   | (go_at_call 34; refine (princ_seq w2 _ r kids T A1 c1 A2 c2 5 45 0 0 (w.heap.size + 2) ?hB0 ?hV1 ?hV2 _ rfl).mono ?_; (case hB0 => (have h1 := below_size P1.out.2.2.2; have h2 := below_size P2.out.2.2.2.2; simp only [World.alloc, Array.size_push] at h1 h2; omega)); (case hV1 => exact Kd.V_mono (Kd.V_below (Kd.V_alloc P1.out.2.2.1 _) P2.out.2.2.2.2) (fun k hk => by simp only [World.alloc, Array.size_push] at hk; omega)); (case hV2 => exact Kd.V_mono P2.out.2.2.2.1 (fun k hk => by have h1 := below_size P1.out.2.2.2; simp only [World.alloc, Array.size_push] at hk h1; omega)); rintro e w3 ⟨v3, rfl, hV3, hb3⟩; obtain ⟨A3, c3, rfl⟩ := Kd.V_slice hV3; have k0 := blk_below (blk_alloc (blk_alloc P2.out.1 _) _) hb3; have k1 := blk_below (blk_alloc (blk_alloc P2.out.2.1 _) _) hb3; have q3 := blk_lt k0; have n3 := Nat.ne_of_lt q3; have s0 := (blk_cell k0 1).trans rfl; have P3 := Aside0.mk (And.intro k0 (And.intro k1 (And.intro hV3 hb3))); clear t0 t1 t2 k0 k1 hV3 hb3)
   | (go_at_call 35; refine (put_true _ _ _ _ _ _ _ _).mono ?_; rintro e w4 ⟨rfl, hb4⟩; have k1 := blk_below (blk_alloc P3.out.2.1 _) hb4; have z0 := (blk_cell k1 0).trans rfl; have z1 := (blk_cell k1 1).trans rfl; have z2 := (blk_cell k1 2).trans rfl; have y0 := blk_frozen k1 0; have y1 := blk_frozen k1 1; have y2 := blk_frozen k1 2; have P4 := Aside0.mk (And.intro k1 hb4); clear s0 k1 hb4))
  have hB := below_step (below_alloc (below_step (below_alloc (below_alloc (below_step (below_alloc (below_step (below_alloc (below_alloc (Below.refl _ w) _) _) P1.out.2.2.2) _) P2.out.2.2.2.2) _) _) P3.out.2.2.2) _) P4.out.2
  refine bodyPost_ret (results_ct rfl _ _ (w.heap.size + 1) 45 #[.int .u8 48, .slice none 0 0, .slice A3 2 c3] (0, 0) _ rfl (blk_put (blk_put (blk_put P4.out.1 0 _ rfl) 1 _ rfl) 2 _ rfl) Tryd.underlying45 rfl (by kernel_rfl)) rfl ?_
  have hne : ∀ k, w.heap.size + 2 ≤ k → k ≠ w.heap.size + 1 := fun k hk => by omega
  have hV := Kd.V_far (p := ⟨w.heap.size + 1, 2, none⟩) (Kd.V_far (p := ⟨w.heap.size + 1, 1, none⟩) (Kd.V_far (p := ⟨w.heap.size + 1, 0, none⟩) (Kd.V_below (Kd.V_alloc P3.out.2.2.1 _) P4.out.2) hne (.int .u8 48)) hne (.slice none 0 0)) hne (.slice A3 2 c3)
  exact ⟨_, rfl, Kd.V_mono hV (fun k hk => by omega), below_set (below_set (below_set hB (Nat.le_succ _)) (Nat.le_succ _)) (Nat.le_succ _)⟩
 ·have hGe : G = (0, [], 91) := by
   obtain ⟨g1, g2⟩ := PG.out
   rw [g1, g2, h1]
   rfl
  rw [hGe]
  clear hGe PG PK
  dsimp only
  subst h1
  go_enter Tryd.func15, Tryd.ntmps15
  go_wp2_with (first
   | (go_at_call 31; refine (PO.out _).mono ?_; rintro e w1 ⟨A1, c1, rfl, hV1, hb1⟩; have k0 := blk_below (blk_alloc (blk_new w _) _) hb1; have k1 := blk_below (blk_new1 w _ _) hb1; have q0 := blk_lt k0; have q1 := blk_lt k1; have n0 := Nat.ne_of_lt q0; have n1 := Nat.ne_of_lt q1; have s0 := (blk_cell k0 1).trans rfl; have P1 := Aside0.mk (And.intro k0 (And.intro k1 (And.intro hV1 hb1))); clear k0 k1 hV1 hb1)
   | (go_at_call 33; refine (PL.out _ (Kd.C_alloc (Kd.C_below PR.out (below_step (below_alloc (below_alloc (Below.refl _ _) _) _) P1.out.2.2.2)) _)).mono ?_; rintro e w2 ⟨v2, rfl, hV2, hb2⟩; obtain ⟨A2, c2, rfl⟩ := Kd.V_slice hV2; have k0 := blk_below (blk_alloc P1.out.1 _) hb2; have k1 := blk_below (blk_alloc P1.out.2.1 _) hb2; have k2 := blk_below (blk_new w1 _) hb2; have q2 := blk_lt k2; have n2 := Nat.ne_of_lt q2; have t0 := (blk_cell k2 0).trans rfl; have t1 := (blk_cell k2 1).trans rfl; have t2 := (blk_cell k2 2).trans rfl; have P2 := Aside0.mk (And.intro k0 (And.intro k1 (And.intro k2 (And.intro hV2 hb2)))); clear s0 k0 k1 k2 hV2 hb2)
   | (go_at_call 34; refine (princ_seq w2 _ r kids T A1 c1 A2 c2 5 45 0 0 (w.heap.size + 2) ?hB0 ?hV1 ?hV2 _ rfl).mono ?_; (case hB0 => (have h1 := below_size P1.out.2.2.2; have h2 := below_size P2.out.2.2.2.2; simp only [World.alloc, Array.size_push] at h1 h2; omega)); (case hV1 => exact Kd.V_mono (Kd.V_below (Kd.V_alloc P1.out.2.2.1 _) P2.out.2.2.2.2) (fun k hk => by simp only [World.alloc, Array.size_push] at hk; omega)); (case hV2 => exact Kd.V_mono P2.out.2.2.2.1 (fun k hk => by have h1 := below_size P1.out.2.2.2; simp only [World.alloc, Array.size_push] at hk h1; omega)); rintro e w3 ⟨v3, rfl, hV3, hb3⟩; obtain ⟨A3, c3, rfl⟩ := Kd.V_slice hV3; have k0 := blk_below (blk_alloc (blk_alloc P2.out.1 _) _) hb3; have k1 := blk_below (blk_alloc (blk_alloc P2.out.2.1 _) _) hb3; have q3 := blk_lt k0; have n3 := Nat.ne_of_lt q3; have s0 := (blk_cell k0 1).trans rfl; have P3 := Aside0.mk (And.intro k0 (And.intro k1 (And.intro hV3 hb3))); clear t0 t1 t2 k0 k1 hV3 hb3)
   | (go_at_call 35; refine (put_false _ _ _ _ _ _ _ _).mono ?_; rintro e w4 ⟨rfl, hb4⟩; have k1 := blk_below (blk_alloc P3.out.2.1 _) hb4; have z0 := (blk_cell k1 0).trans rfl; have z1 := (blk_cell k1 1).trans rfl; have z2 := (blk_cell k1 2).trans rfl; have y0 := blk_frozen k1 0; have y1 := blk_frozen k1 1; have y2 := blk_frozen k1 2; have P4 := Aside0.mk (And.intro k1 hb4); clear s0 k1 hb4))
  have hB := below_step (below_alloc (below_step (below_alloc (below_alloc (below_step (below_alloc (below_step (below_alloc (below_alloc (Below.refl _ w) _) _) P1.out.2.2.2) _) P2.out.2.2.2.2) _) _) P3.out.2.2.2) _) P4.out.2
  refine bodyPost_ret (results_ct rfl _ _ (w.heap.size + 1) 45 #[.int .u8 0, .slice none 0 0, .slice none 0 0] (0, 0) _ rfl (blk_put (blk_put (blk_put P4.out.1 0 _ rfl) 1 _ rfl) 2 _ rfl) Tryd.underlying45 rfl (by kernel_rfl)) rfl ?_
  exact ⟨_, rfl, Kd.V_nil _ _ _ _ _, below_set (below_set (below_set hB (Nat.le_succ _)) (Nat.le_succ _)) (Nat.le_succ _)⟩
 ·have hGe : G = (0, [], 91) := by
   obtain ⟨g1, g2⟩ := PG.out
   rw [g1, g2, h1, h2]
   rfl
  rw [hGe]
  clear hGe PG PK
  dsimp only
  subst h1 h2
  go_enter Tryd.func15, Tryd.ntmps15
  go_wp2_with (first
   | (go_at_call 31; refine (PO.out _).mono ?_; rintro e w1 ⟨A1, c1, rfl, hV1, hb1⟩; have k0 := blk_below (blk_alloc (blk_new w _) _) hb1; have k1 := blk_below (blk_new1 w _ _) hb1; have q0 := blk_lt k0; have q1 := blk_lt k1; have n0 := Nat.ne_of_lt q0; have n1 := Nat.ne_of_lt q1; have s0 := (blk_cell k0 1).trans rfl; have P1 := Aside0.mk (And.intro k0 (And.intro k1 (And.intro hV1 hb1))); clear k0 k1 hV1 hb1)
   | (go_at_call 33; refine (PL.out _ (Kd.C_alloc (Kd.C_below PR.out (below_step (below_alloc (below_alloc (Below.refl _ _) _) _) P1.out.2.2.2)) _)).mono ?_; rintro e w2 ⟨v2, rfl, hV2, hb2⟩; obtain ⟨A2, c2, rfl⟩ := Kd.V_slice hV2; have k0 := blk_below (blk_alloc P1.out.1 _) hb2; have k1 := blk_below (blk_alloc P1.out.2.1 _) hb2; have k2 := blk_below (blk_new w1 _) hb2; have q2 := blk_lt k2; have n2 := Nat.ne_of_lt q2; have t0 := (blk_cell k2 0).trans rfl; have t1 := (blk_cell k2 1).trans rfl; have t2 := (blk_cell k2 2).trans rfl; have P2 := Aside0.mk (And.intro k0 (And.intro k1 (And.intro k2 (And.intro hV2 hb2)))); clear s0 k0 k1 k2 hV2 hb2)
   | (go_at_call 34; refine (princ_seq w2 _ r kids T A1 c1 A2 c2 5 45 0 0 (w.heap.size + 2) ?hB0 ?hV1 ?hV2 _ rfl).mono ?_; (case hB0 => (have h1 := below_size P1.out.2.2.2; have h2 := below_size P2.out.2.2.2.2; simp only [World.alloc, Array.size_push] at h1 h2; omega)); (case hV1 => exact Kd.V_mono (Kd.V_below (Kd.V_alloc P1.out.2.2.1 _) P2.out.2.2.2.2) (fun k hk => by simp only [World.alloc, Array.size_push] at hk; omega)); (case hV2 => exact Kd.V_mono P2.out.2.2.2.1 (fun k hk => by have h1 := below_size P1.out.2.2.2; simp only [World.alloc, Array.size_push] at hk h1; omega)); rintro e w3 ⟨v3, rfl, hV3, hb3⟩; obtain ⟨A3, c3, rfl⟩ := Kd.V_slice hV3; have k0 := blk_below (blk_alloc (blk_alloc P2.out.1 _) _) hb3; have k1 := blk_below (blk_alloc (blk_alloc P2.out.2.1 _) _) hb3; have q3 := blk_lt k0; have n3 := Nat.ne_of_lt q3; have s0 := (blk_cell k0 1).trans rfl; have P3 := Aside0.mk (And.intro k0 (And.intro k1 (And.intro hV3 hb3))); clear t0 t1 t2 k0 k1 hV3 hb3)
   | (go_at_call 35; refine (put_false _ _ _ _ _ _ _ _).mono ?_; rintro e w4 ⟨rfl, hb4⟩; have k1 := blk_below (blk_alloc P3.out.2.1 _) hb4; have z0 := (blk_cell k1 0).trans rfl; have z1 := (blk_cell k1 1).trans rfl; have z2 := (blk_cell k1 2).trans rfl; have y0 := blk_frozen k1 0; have y1 := blk_frozen k1 1; have y2 := blk_frozen k1 2; have P4 := Aside0.mk (And.intro k1 hb4); clear s0 k1 hb4))
  have hB := below_step (below_alloc (below_step (below_alloc (below_alloc (below_step (below_alloc (below_step (below_alloc (below_alloc (Below.refl _ w) _) _) P1.out.2.2.2) _) P2.out.2.2.2.2) _) _) P3.out.2.2.2) _) P4.out.2
  refine bodyPost_ret (results_ct rfl _ _ (w.heap.size + 1) 45 #[.int .u8 0, .slice none 0 0, .slice none 0 0] (0, 0) _ rfl (blk_put (blk_put (blk_put P4.out.1 0 _ rfl) 1 _ rfl) 2 _ rfl) Tryd.underlying45 rfl (by kernel_rfl)) rfl ?_
  exact ⟨_, rfl, Kd.V_nil _ _ _ _ _, below_set (below_set (below_set hB (Nat.le_succ _)) (Nat.le_succ _)) (Nat.le_succ _)⟩
 ·have hGe : G = (0, [], 91) := by
   obtain ⟨g1, g2⟩ := PG.out
   rw [g1, g2, h1, h2, decide_eq_false (show ¬ 1 ≤ n by omega)]
   rfl
  rw [hGe]
  clear hGe PG PK
  dsimp only
  subst h1 h2 h3
  go_enter Tryd.func15, Tryd.ntmps15
  go_wp2_with (first
   | (go_at_call 31; refine (PO.out _).mono ?_; rintro e w1 ⟨A1, c1, rfl, hV1, hb1⟩; have k0 := blk_below (blk_alloc (blk_new w _) _) hb1; have k1 := blk_below (blk_new1 w _ _) hb1; have q0 := blk_lt k0; have q1 := blk_lt k1; have n0 := Nat.ne_of_lt q0; have n1 := Nat.ne_of_lt q1; have s0 := (blk_cell k0 1).trans rfl; have P1 := Aside0.mk (And.intro k0 (And.intro k1 (And.intro hV1 hb1))); clear k0 k1 hV1 hb1)
   | (go_at_call 33; refine (PL.out _ (Kd.C_alloc (Kd.C_below PR.out (below_step (below_alloc (below_alloc (Below.refl _ _) _) _) P1.out.2.2.2)) _)).mono ?_; rintro e w2 ⟨v2, rfl, hV2, hb2⟩; obtain ⟨A2, c2, rfl⟩ := Kd.V_slice hV2; have k0 := blk_below (blk_alloc P1.out.1 _) hb2; have k1 := blk_below (blk_alloc P1.out.2.1 _) hb2; have k2 := blk_below (blk_new w1 _) hb2; have q2 := blk_lt k2; have n2 := Nat.ne_of_lt q2; have t0 := (blk_cell k2 0).trans rfl; have t1 := (blk_cell k2 1).trans rfl; have t2 := (blk_cell k2 2).trans rfl; have P2 := Aside0.mk (And.intro k0 (And.intro k1 (And.intro k2 (And.intro hV2 hb2)))); clear s0 k0 k1 k2 hV2 hb2)
   | (go_at_call 34; refine (princ_seq w2 _ r kids T A1 c1 A2 c2 5 45 0 0 (w.heap.size + 2) ?hB0 ?hV1 ?hV2 _ rfl).mono ?_; (case hB0 => (have h1 := below_size P1.out.2.2.2; have h2 := below_size P2.out.2.2.2.2; simp only [World.alloc, Array.size_push] at h1 h2; omega)); (case hV1 => exact Kd.V_mono (Kd.V_below (Kd.V_alloc P1.out.2.2.1 _) P2.out.2.2.2.2) (fun k hk => by simp only [World.alloc, Array.size_push] at hk; omega)); (case hV2 => exact Kd.V_mono P2.out.2.2.2.1 (fun k hk => by have h1 := below_size P1.out.2.2.2; simp only [World.alloc, Array.size_push] at hk h1; omega)); rintro e w3 ⟨v3, rfl, hV3, hb3⟩; obtain ⟨A3, c3, rfl⟩ := Kd.V_slice hV3; have k0 := blk_below (blk_alloc (blk_alloc P2.out.1 _) _) hb3; have k1 := blk_below (blk_alloc (blk_alloc P2.out.2.1 _) _) hb3; have q3 := blk_lt k0; have n3 := Nat.ne_of_lt q3; have s0 := (blk_cell k0 1).trans rfl; have P3 := Aside0.mk (And.intro k0 (And.intro k1 (And.intro hV3 hb3))); clear t0 t1 t2 k0 k1 hV3 hb3)
   | (go_at_call 35; refine (put_false _ _ _ _ _ _ _ _).mono ?_; rintro e w4 ⟨rfl, hb4⟩; have k1 := blk_below (blk_alloc P3.out.2.1 _) hb4; have z0 := (blk_cell k1 0).trans rfl; have z1 := (blk_cell k1 1).trans rfl; have z2 := (blk_cell k1 2).trans rfl; have y0 := blk_frozen k1 0; have y1 := blk_frozen k1 1; have y2 := blk_frozen k1 2; have P4 := Aside0.mk (And.intro k1 hb4); clear s0 k1 hb4))
  have hB := below_step (below_alloc (below_step (below_alloc (below_alloc (below_step (below_alloc (below_step (below_alloc (below_alloc (Below.refl _ w) _) _) P1.out.2.2.2) _) P2.out.2.2.2.2) _) _) P3.out.2.2.2) _) P4.out.2
  refine bodyPost_ret (results_ct rfl _ _ (w.heap.size + 1) 45 #[.int .u8 0, .slice none 0 0, .slice none 0 0] (0, 0) _ rfl (blk_put (blk_put (blk_put P4.out.1 0 _ rfl) 1 _ rfl) 2 _ rfl) Tryd.underlying45 rfl (by kernel_rfl)) rfl ?_
  exact ⟨_, rfl, Kd.V_nil _ _ _ _ _, below_set (below_set (below_set hB (Nat.le_succ _)) (Nat.le_succ _)) (Nat.le_succ _)⟩
 ·have hGe : G = (0, [], 91) := by
   obtain ⟨g1, g2⟩ := PG.out
   rw [g1, g2, h1, h2, decide_eq_true (show 1 ≤ n by omega), decide_eq_false (show ¬ n ≤ 8 by omega)]
   rfl
  have h5 : decide ((n : Int) ≤ 8) = false := decide_eq_false (by omega)
  have h6 : 0 < n := by omega
  have PH := Aside0.mk h5
  clear h5
  rw [hGe]
  clear hGe PG PK
  dsimp only
  subst h1 h2
  go_enter Tryd.func15, Tryd.ntmps15
  go_wp2_with (first
   | (go_at_call 31; refine (PO.out _).mono ?_; rintro e w1 ⟨A1, c1, rfl, hV1, hb1⟩; have k0 := blk_below (blk_alloc (blk_new w _) _) hb1; have k1 := blk_below (blk_new1 w _ _) hb1; have q0 := blk_lt k0; have q1 := blk_lt k1; have n0 := Nat.ne_of_lt q0; have n1 := Nat.ne_of_lt q1; have s0 := (blk_cell k0 1).trans rfl; have P1 := Aside0.mk (And.intro k0 (And.intro k1 (And.intro hV1 hb1))); clear k0 k1 hV1 hb1)
   | (go_at_call 33; refine (PL.out _ (Kd.C_alloc (Kd.C_below PR.out (below_step (below_alloc (below_alloc (Below.refl _ _) _) _) P1.out.2.2.2)) _)).mono ?_; rintro e w2 ⟨v2, rfl, hV2, hb2⟩; obtain ⟨A2, c2, rfl⟩ := Kd.V_slice hV2; have k0 := blk_below (blk_alloc P1.out.1 _) hb2; have k1 := blk_below (blk_alloc P1.out.2.1 _) hb2; have k2 := blk_below (blk_new w1 _) hb2; have q2 := blk_lt k2; have n2 := Nat.ne_of_lt q2; have t0 := (blk_cell k2 0).trans rfl; have t1 := (blk_cell k2 1).trans rfl; have t2 := (blk_cell k2 2).trans rfl; have P2 := Aside0.mk (And.intro k0 (And.intro k1 (And.intro k2 (And.intro hV2 hb2)))); clear s0 k0 k1 k2 hV2 hb2)
   | (go_at_call 34; refine (princ_seq w2 _ r kids T A1 c1 A2 c2 5 45 0 0 (w.heap.size + 2) ?hB0 ?hV1 ?hV2 _ rfl).mono ?_; (case hB0 => (have h1 := below_size P1.out.2.2.2; have h2 := below_size P2.out.2.2.2.2; simp only [World.alloc, Array.size_push] at h1 h2; omega)); (case hV1 => exact Kd.V_mono (Kd.V_below (Kd.V_alloc P1.out.2.2.1 _) P2.out.2.2.2.2) (fun k hk => by simp only [World.alloc, Array.size_push] at hk; omega)); (case hV2 => exact Kd.V_mono P2.out.2.2.2.1 (fun k hk => by have h1 := below_size P1.out.2.2.2; simp only [World.alloc, Array.size_push] at hk h1; omega)); rintro e w3 ⟨v3, rfl, hV3, hb3⟩; obtain ⟨A3, c3, rfl⟩ := Kd.V_slice hV3; have k0 := blk_below (blk_alloc (blk_alloc P2.out.1 _) _) hb3; have k1 := blk_below (blk_alloc (blk_alloc P2.out.2.1 _) _) hb3; have q3 := blk_lt k0; have n3 := Nat.ne_of_lt q3; have s0 := (blk_cell k0 1).trans rfl; have P3 := Aside0.mk (And.intro k0 (And.intro k1 (And.intro hV3 hb3))); clear t0 t1 t2 k0 k1 hV3 hb3)
   | (go_at_call 35; rw [PH.out]; refine (put_false _ _ _ _ _ _ _ _).mono ?_; rintro e w4 ⟨rfl, hb4⟩; have k1 := blk_below (blk_alloc P3.out.2.1 _) hb4; have z0 := (blk_cell k1 0).trans rfl; have z1 := (blk_cell k1 1).trans rfl; have z2 := (blk_cell k1 2).trans rfl; have y0 := blk_frozen k1 0; have y1 := blk_frozen k1 1; have y2 := blk_frozen k1 2; have P4 := Aside0.mk (And.intro k1 hb4); clear s0 k1 hb4))
  have hB := below_step (below_alloc (below_step (below_alloc (below_alloc (below_step (below_alloc (below_step (below_alloc (below_alloc (Below.refl _ w) _) _) P1.out.2.2.2) _) P2.out.2.2.2.2) _) _) P3.out.2.2.2) _) P4.out.2
  refine bodyPost_ret (results_ct rfl _ _ (w.heap.size + 1) 45 #[.int .u8 0, .slice none 0 0, .slice none 0 0] (0, 0) _ rfl (blk_put (blk_put (blk_put P4.out.1 0 _ rfl) 1 _ rfl) 2 _ rfl) Tryd.underlying45 rfl (by kernel_rfl)) rfl ?_
  exact ⟨_, rfl, Kd.V_nil _ _ _ _ _, below_set (below_set (below_set hB (Nat.le_succ _)) (Nat.le_succ _)) (Nat.le_succ _)⟩
end Go.Proofs.YtncanijjnhkgbaaDoor.PMsgsUnlike
namespace Go.Proofs.YtncanijjnhkgbaaDoor.PMsgsUnlike
open Go.RowKit Go.Proofs.YtncanijjnhkgbaaDoorW.PrintWords Go.Proofs.YtncanijjnhkgbaaDoorW.PrintLast Go.Proofs.YtncanijjnhkgbaaDoorW.PrintMore
theorem row1_F {α : Type} {d : Kd α} {W : World} {ok : Nat → Prop} {g e : Nat} {x : α} {cs : List Value} (hk : W.heap[g]? = some (.cells cs.toArray e)) (hF : Kd.FK d W ok x cs) (hg : ok g) : Kd.F d W ok (some ⟨g, 0, none⟩) 1 [x] := fun W' hW => by
 have hk' : W'.heap[g]? = some (.cells cs.toArray e) := (hW g hg (blk_lt hk)).trans hk
 refine ⟨rfl, by decide, fun _ => ⟨_, rfl, fun j p hj => ?_⟩⟩
 cases j with
 | zero =>
  have : x = p := by simpa using hj
  subst this
  refine ⟨cs, d.K_len (hF W' hW), hF W' hW, fun i u hu => ?_⟩
  have ha : (⟨g, 0, none⟩ : Addr).add (0 * d.sz + i) = ⟨g, i, none⟩ := by
   rw [Nat.zero_mul, Nat.zero_add]
   cases i <;> simp [Addr.add]
  rw [ha, blk_cell hk' i]
  simpa using hu
 | succ j => simp at hj
def inR (e : Int) : Bool := decide (0 ≤ e) && decide (e < 281474976710656)
def handleN (e : Int) : S45 := ⟨4, if inR e = true then hE e else [], []⟩
theorem handle_calls (e : Int) (w : World) :
  Calls Tryd.prog 13 #[.iface 52 (.int .i64 e)] w fun e' w' => ∃ A c B d, e' = .returned (.tuple #[.agg #[.int .u8 (handleN e).f0, .slice A (handleN e).f1.length c, .slice B (handleN e).f2.length d], .bool (inR e)]) ∧ Kd.FK k45 w' (fun k => w.heap.size ≤ k) (handleN e) (cellsOf (handleN e) A c B d) ∧ Below w.heap.size w w' := by
 have hf : wire_Node_wireHandle.f e = some (4, (handleN e).f1, [], inR e) := by
  unfold wire_Node_wireHandle.f handleN inR
  by_cases h : 0 ≤ e ∧ e < 281474976710656
  ·rw [if_pos h, decide_eq_true h.1, decide_eq_true h.2]
   rfl
  ·rw [if_neg h]
   by_cases h1 : 0 ≤ e
   ·rw [decide_eq_true h1, decide_eq_false (fun h2 => h ⟨h1, h2⟩)]
    rfl
   ·rw [decide_eq_false h1]
    rfl
 refine (wire_Node_wireHandle.calls e _ _ _ _ w hf).mono ?_
 rintro e' w' ⟨v1, v2, rfl, hV1, hV2, hb⟩
 obtain ⟨A, c, rfl⟩ := Kd.V_slice hV1
 obtain ⟨B, d, rfl⟩ := Kd.V_slice hV2
 obtain ⟨_, h1, h2⟩ := Kd.V_at hV1
 obtain ⟨_, h3, h4⟩ := Kd.V_at hV2
 exact ⟨A, c, B, d, rfl, k45_mkF _ _ (handleN e) h1 h2 h3 h4, hb⟩
theorem ticket_seq (w2 : World) (o : Obj) (t e : Int) (kids : List S45) (A2 : Option Addr) (c2 : Nat) (e2 b2 B0 : Nat) (hB0 : B0 ≤ w2.heap.size)
  (h2 : Kd.V k45 e2 w2 b2 (fun k => B0 ≤ k) (.slice A2 kids.length c2) kids) (W : World)
  (hW : W = (w2.alloc o).alloc (.cells #[.iface 45 (.agg #[.int .u8 t, .slice none 0 0, .slice A2 kids.length c2]), .iface 52 (.int .i64 e)] 20)) :
  Calls Tryd.prog 34 #[.int .u8 48, .slice (some ⟨w2.heap.size + 1, 0, none⟩) 2 2] W fun e' w' => ∃ v : Value, e' = .returned (.tuple #[.agg #[.int .u8 (if inR e = true then 48 else 0), .slice none 0 0, v], .bool (inR e)]) ∧ Kd.V k45 45 w' W.heap.size (fun k => B0 ≤ k) v (if inR e = true then [⟨t, [], kids⟩, handleN e] else []) ∧ Below W.heap.size W w' := by
 have hk : W.heap[w2.heap.size + 1]? = some (.cells #[.iface 45 (.agg #[.int .u8 t, .slice none 0 0, .slice A2 kids.length c2]), .iface 52 (.int .i64 e)] 20) := by rw [hW]; exact blk_new1 _ _ _
 have f0 : Kd.FK k45 W (fun k => B0 ≤ k) ⟨t, [], kids⟩ (cellsOf ⟨t, [], kids⟩ none 0 A2 c2) := by
  rw [hW]
  obtain ⟨_, h3, h4⟩ := Kd.V_at (Kd.V_alloc (Kd.V_alloc h2 o) (.cells #[.iface 45 (.agg #[.int .u8 t, .slice none 0 0, .slice A2 kids.length c2]), .iface 52 (.int .i64 e)] 20))
  exact k45_mkF _ _ ⟨t, [], kids⟩ (A1 := none) (c1 := 0) (Nat.le_refl _) (Kd.F_nil _ _ _) (A2 := A2) (c2 := c2) h3 h4
 have hB : B0 ≤ W.heap.size := by
  rw [hW]
  simp only [World.alloc, Array.size_push]
  omega
 have h := seq_calls 2 (by decide) ⟨w2.heap.size + 1, 0, none⟩ 2 (pairX (.iface 45 (.agg #[.int .u8 t, .slice none 0 0, .slice A2 kids.length c2])) (.iface 52 (.int .i64 e))) (pairN ⟨t, [], kids⟩ (handleN e)) (fun i => if i = 0 then true else inR e) B0 W
  (fun i hi => by
   have : i = 0 ∨ i = 1 := by omega
   rcases this with rfl | rfl
   ·exact (blk_cell hk 0).trans rfl
   ·exact (blk_cell hk 1).trans rfl)
  (fun i hi W1 hb => by
   have : i = 0 ∨ i = 1 := by omega
   rcases this with rfl | rfl
   ·refine (node_node t none 0 0 A2 kids.length c2 W1).mono ?_
    rintro e' w' ⟨rfl, hb'⟩
    exact ⟨none, 0, A2, c2, rfl, Kd.FK_mono (Kd.FK_below (Kd.FK_bound f0) (hb.trans (hb'.mono hb.size))) (fun k hk => .inl hk), hb'⟩
   ·refine (handle_calls e W1).mono ?_
    rintro e' w' ⟨A, c, B, d, rfl, hF, hb'⟩
    exact ⟨A, c, B, d, rfl, Kd.FK_mono hF (fun k hk => .inr hk), hb'⟩) hB
 have hall : (List.range 2).all (fun i => if i = 0 then true else inR e) = inR e := by
  show (true && (inR e && true)) = inR e
  rw [Bool.true_and, Bool.and_true]
 rw [hall] at h
 exact h
end Go.Proofs.YtncanijjnhkgbaaDoor.PMsgsUnlike
namespace Go.Proofs.YtncanijjnhkgbaaDoor.PMsgsUnlike
open Go.RowKit Go.Proofs.YtncanijjnhkgbaaDoorW.PrintWords Go.Proofs.YtncanijjnhkgbaaDoorW.PrintLast Go.Proofs.YtncanijjnhkgbaaDoorW.PrintMore
def ticketG (ok : Bool) (r : ByteArray) (l : List ByteArray) (e : Int) : Int × List S45 × Int := if ok = true then (97, [⟨48, [], [⟨48, [], princK r l⟩, ⟨4, hE e, []⟩]⟩], 0) else (0, [], 172)
set_option maxHeartbeats 8000000 in
theorem ticket_calls (r : ByteArray) (A0 : Option Addr) (c0 : Nat) (l : List ByteArray) (e : Int) (w : World) (hr : Kd.C Kd.string w A0 l.length l) (hl : l.length ≤ 1048576) (hrs : r.size ≤ 1048576) (hs : ∀ s ∈ l, s.size ≤ 1048576) :
  Calls Tryd.prog 16 #[.agg #[.string r, .slice A0 l.length c0, .int .i64 e]] w fun e' w' => ∃ v : Value, e' = .returned (.tuple #[.agg #[.int .u8 (ticketG (princOk r l && inR e) r l e).1, .slice none 0 0, v], .int .i64 (ticketG (princOk r l && inR e) r l e).2.2]) ∧ Kd.V k45 45 w' w.heap.size (fun k => w.heap.size + 1 < k) v (ticketG (princOk r l && inR e) r l e).2.1 ∧ Below w.heap.size w w' := by
 have PL := Aside0.mk (fun W (hC : Kd.C Kd.string W A0 l.length l) => princ_calls r A0 c0 l W hC hl hrs hs)
 have PR := Aside0.mk hr
 obtain ⟨n, hn⟩ : ∃ n, n = l.length := ⟨_, rfl⟩
 rw [← hn] at PL PR ⊢
 clear hr hrs hs hn hl
 obtain ⟨P, hP⟩ : ∃ P, P = princOk r l := ⟨_, rfl⟩
 obtain ⟨Q, hQ⟩ : ∃ Q, Q = inR e := ⟨_, rfl⟩
 rw [← hP] at PL ⊢
 rw [← hQ]
 have PQ := Aside0.mk hQ
 clear hP hQ
 obtain ⟨G, hG⟩ : ∃ G, G = ticketG (P && Q) r l e := ⟨_, rfl⟩
 rw [← hG]
 obtain ⟨H, hH⟩ : ∃ H, H = princG P r l := ⟨_, rfl⟩
 rw [← hH] at PL
 have PG := Aside0.mk (And.intro hG hH)
 clear hG hH
 have PS := Aside0.mk (fun w2 o t kids A2 c2 e2 b2 B0 => ticket_seq w2 o t e kids A2 c2 e2 b2 B0)
 rw [← PQ.out] at PS
 obtain ⟨K, hK⟩ : ∃ K, K = princK r l := ⟨_, rfl⟩
 rcases Bool.eq_false_or_eq_true P with hP | hP <;> rcases Bool.eq_false_or_eq_true Q with hQ | hQ
 ·have hN0 : handleN e = ⟨4, hE e, []⟩ := by
   unfold handleN
   rw [← PQ.out, hQ]
   rfl
  obtain ⟨N, hN⟩ : ∃ N : S45, N = ⟨4, hE e, []⟩ := ⟨_, rfl⟩
  rw [hN0, ← hN] at PS
  have hHe : H = (48, K, 0) := by
   rw [PG.out.2, hP]
   rw [hK]; rfl
  have hGe : G = (97, [⟨48, [], [⟨48, [], K⟩, N]⟩], 0) := by
   rw [PG.out.1, hP, hQ]
   rw [hN, hK]; rfl
  have PN := Aside0.mk hN
  clear hN hN0
  rw [hHe] at PL
  rw [hGe]
  rw [hQ] at PS
  clear hHe hGe PG hK
  dsimp only at PL PS ⊢
  subst hP hQ
  go_enter Tryd.func16, Tryd.ntmps16
  go_wp2_with (first
   | (go_at_call 15; refine (PL.out _ (Kd.C_alloc (Kd.C_alloc PR.out _) _)).mono ?_; rintro e1 w1 ⟨v1, rfl, hV1, hb1⟩; obtain ⟨A2, c2, rfl⟩ := Kd.V_slice hV1; have k0 := blk_below (blk_alloc (blk_new w _) _) hb1; have k1 := blk_below (blk_new1 w _ _) hb1; have q0 := blk_lt k0; have q1 := blk_lt k1; have n0 := Nat.ne_of_lt q0; have n1 := Nat.ne_of_lt q1; have s0 := (blk_cell k0 2).trans rfl; have P1 := Aside0.mk (And.intro k0 (And.intro k1 (And.intro hV1 hb1))); clear k0 k1 hV1 hb1)
   | (go_at_call 34; refine (PS.out w1 _ 48 K A2 c2 45 0 (w.heap.size + 2) ?hB0 ?hV2 _ rfl).mono ?_; (case hB0 => (have h1 := below_size P1.out.2.2.2; simp only [World.alloc, Array.size_push] at h1; omega)); (case hV2 => exact Kd.V_mono P1.out.2.2.1 (fun k hk => by simp only [World.alloc, Array.size_push] at hk; omega)); rintro e1 w3 ⟨v3, rfl, hV3, hb3⟩; obtain ⟨A3, c3, rfl⟩ := Kd.V_slice hV3; have k1 := blk_below (blk_alloc (blk_alloc P1.out.2.1 _) _) hb3; have q3 := blk_lt k1; have n3 := Nat.ne_of_lt q3; have q4 : w.heap.size < w3.heap.size := Nat.lt_of_succ_lt q3; have n4 := Nat.ne_of_lt q4; have z0 := (blk_cell k1 0).trans rfl; have z1 := (blk_cell k1 1).trans rfl; have z2 := (blk_cell k1 2).trans rfl; have y0 := blk_frozen k1 0; have y1 := blk_frozen k1 1; have y2 := blk_frozen k1 2; have P3 := Aside0.mk (And.intro k1 (And.intro hV3 hb3)); clear s0 k1 hV3 hb3))
  have hB := below_step (below_alloc (below_alloc (below_step (below_alloc (below_alloc (Below.refl _ w) _) _) P1.out.2.2.2) _) _) P3.out.2.2
  have hV0 := P3.out.2.1
  have hk0 := blk_put (blk_put (blk_put P3.out.1 0 (.int .u8 97) rfl) 1 (.slice none 0 0) rfl) 2 (.slice (some ⟨w3.heap.size + 1, 0, none⟩) 1 1) rfl
  have hne : ∀ k, w.heap.size + 2 ≤ k → k ≠ w.heap.size + 1 := fun k hk => by omega
  have hV := Kd.V_far (p := ⟨w.heap.size + 1, 2, none⟩) (Kd.V_far (p := ⟨w.heap.size + 1, 1, none⟩) (Kd.V_far (p := ⟨w.heap.size + 1, 0, none⟩) hV0 hne (.int .u8 97)) hne (.slice none 0 0)) hne (.slice (some ⟨w3.heap.size + 1, 0, none⟩) 1 1)
  have hB2 := below_set (g := w.heap.size + 1) (j := 2) (v := (.slice (some ⟨w3.heap.size + 1, 0, none⟩) 1 1)) (below_set (g := w.heap.size + 1) (j := 1) (v := (.slice none 0 0)) (below_set (g := w.heap.size + 1) (j := 0) (v := (.int .u8 97)) hB (Nat.le_succ _)) (Nat.le_succ _)) (Nat.le_succ _)
  have hsz : (((w3.setCell ⟨w.heap.size + 1, 0, none⟩ (.int .u8 97)).setCell ⟨w.heap.size + 1, 1, none⟩ (.slice none 0 0)).setCell ⟨w.heap.size + 1, 2, none⟩ (.slice (some ⟨w3.heap.size + 1, 0, none⟩) 1 1)).heap.size = w3.heap.size := by
   simp [World.setCell]
  generalize ((w3.setCell ⟨w.heap.size + 1, 0, none⟩ (.int .u8 97)).setCell ⟨w.heap.size + 1, 1, none⟩ (.slice none 0 0)).setCell ⟨w.heap.size + 1, 2, none⟩ (.slice (some ⟨w3.heap.size + 1, 0, none⟩) 1 1) = S at hk0 hV hB2 hsz ⊢
  refine bodyPost_ret (results_ct rfl _ _ (w.heap.size + 1) 45 #[.int .u8 97, .slice none 0 0, .slice (some ⟨w3.heap.size + 1, 0, none⟩) 1 1] (0, 0) _ rfl (blk_alloc (blk_alloc hk0 _) _) Tryd.underlying45 rfl (by kernel_rfl)) rfl ?_
  have hk := blk_new1 S (.cells #[.int .u8 48, .slice none 0 0, .slice A3 2 c3] 45) (.cells #[.int .u8 48, .slice none 0 0, .slice A3 2 c3] 45)
  rw [hsz] at hk
  obtain ⟨_, h3, h4⟩ := Kd.V_at (Kd.V_alloc (Kd.V_alloc hV (.cells #[.int .u8 48, .slice none 0 0, .slice A3 2 c3] 45)) (.cells #[.int .u8 48, .slice none 0 0, .slice A3 2 c3] 45))
  have hF := k45_mkF _ _ (⟨48, [], [⟨48, [], K⟩, N]⟩ : S45) (A1 := none) (c1 := 0) (Nat.le_refl _) (Kd.F_nil _ _ _) (A2 := A3) (c2 := c3) h3 h4
  have hR := row1_F (d := k45) hk hF (show w.heap.size + 2 ≤ w3.heap.size + 1 by omega)
  have hW : Kd.V k45 45 _ w.heap.size (fun k => w.heap.size + 2 ≤ k) (.slice (some ⟨w3.heap.size + 1, 0, none⟩) 1 1) [(⟨48, [], [⟨48, [], K⟩, N]⟩ : S45)] := ⟨_, 1, rfl, Nat.le_refl 1, hR⟩
  exact ⟨_, rfl, Kd.V_mono hW (fun k hk => by omega), below_alloc (below_alloc hB2 _) _⟩
 ·have hHe : H = (48, K, 0) := by
   rw [PG.out.2, hP]
   rw [hK]; rfl
  have hGe : G = (0, [], 172) := by
   rw [PG.out.1, hP, hQ]
   rfl
  rw [hHe] at PL
  rw [hGe]
  rw [hQ] at PS
  clear hHe hGe PG hK
  dsimp only at PL PS ⊢
  subst hP hQ
  go_enter Tryd.func16, Tryd.ntmps16
  go_wp2_with (first
   | (go_at_call 15; refine (PL.out _ (Kd.C_alloc (Kd.C_alloc PR.out _) _)).mono ?_; rintro e1 w1 ⟨v1, rfl, hV1, hb1⟩; obtain ⟨A2, c2, rfl⟩ := Kd.V_slice hV1; have k0 := blk_below (blk_alloc (blk_new w _) _) hb1; have k1 := blk_below (blk_new1 w _ _) hb1; have q0 := blk_lt k0; have q1 := blk_lt k1; have n0 := Nat.ne_of_lt q0; have n1 := Nat.ne_of_lt q1; have s0 := (blk_cell k0 2).trans rfl; have P1 := Aside0.mk (And.intro k0 (And.intro k1 (And.intro hV1 hb1))); clear k0 k1 hV1 hb1)
   | (go_at_call 34; refine (PS.out w1 _ 48 K A2 c2 45 0 (w.heap.size + 2) ?hB0 ?hV2 _ rfl).mono ?_; (case hB0 => (have h1 := below_size P1.out.2.2.2; simp only [World.alloc, Array.size_push] at h1; omega)); (case hV2 => exact Kd.V_mono P1.out.2.2.1 (fun k hk => by simp only [World.alloc, Array.size_push] at hk; omega)); rintro e1 w3 ⟨v3, rfl, hV3, hb3⟩; obtain ⟨A3, c3, rfl⟩ := Kd.V_slice hV3; have k1 := blk_below (blk_alloc (blk_alloc P1.out.2.1 _) _) hb3; have q3 := blk_lt k1; have n3 := Nat.ne_of_lt q3; have q4 : w.heap.size < w3.heap.size := Nat.lt_of_succ_lt q3; have n4 := Nat.ne_of_lt q4; have z0 := (blk_cell k1 0).trans rfl; have z1 := (blk_cell k1 1).trans rfl; have z2 := (blk_cell k1 2).trans rfl; have y0 := blk_frozen k1 0; have y1 := blk_frozen k1 1; have y2 := blk_frozen k1 2; have P3 := Aside0.mk (And.intro k1 (And.intro hV3 hb3)); clear s0 k1 hV3 hb3))
  have hB := below_step (below_alloc (below_alloc (below_step (below_alloc (below_alloc (Below.refl _ w) _) _) P1.out.2.2.2) _) _) P3.out.2.2
  refine bodyPost_ret (results_ct rfl _ _ (w.heap.size + 1) 45 #[.int .u8 0, .slice none 0 0, .slice none 0 0] (0, 0) _ rfl (blk_alloc (blk_put (blk_put (blk_put P3.out.1 0 _ rfl) 1 _ rfl) 2 _ rfl) _) Tryd.underlying45 rfl (by kernel_rfl)) rfl ?_
  exact ⟨_, rfl, Kd.V_nil _ _ _ _ _, below_alloc (below_set (below_set (below_set hB (Nat.le_succ _)) (Nat.le_succ _)) (Nat.le_succ _)) _⟩
 ·have hHe : H = (0, [], 91) := by
   rw [PG.out.2, hP]
   rfl
  have hGe : G = (0, [], 172) := by
   rw [PG.out.1, hP, hQ]
   rfl
  rw [hHe] at PL
  rw [hGe]
  rw [hQ] at PS
  clear hHe hGe PG hK
  dsimp only at PL PS ⊢
  subst hP hQ
  go_enter Tryd.func16, Tryd.ntmps16
  go_wp2_with (first
   | (go_at_call 15; refine (PL.out _ (Kd.C_alloc (Kd.C_alloc PR.out _) _)).mono ?_; rintro e1 w1 ⟨v1, rfl, hV1, hb1⟩; obtain ⟨A2, c2, rfl⟩ := Kd.V_slice hV1; have k0 := blk_below (blk_alloc (blk_new w _) _) hb1; have k1 := blk_below (blk_new1 w _ _) hb1; have q0 := blk_lt k0; have q1 := blk_lt k1; have n0 := Nat.ne_of_lt q0; have n1 := Nat.ne_of_lt q1; have s0 := (blk_cell k0 2).trans rfl; have P1 := Aside0.mk (And.intro k0 (And.intro k1 (And.intro hV1 hb1))); clear k0 k1 hV1 hb1)
   | (go_at_call 34; refine (PS.out w1 _ 0 ([] : List S45) A2 c2 45 0 (w.heap.size + 2) ?hB0 ?hV2 _ rfl).mono ?_; (case hB0 => (have h1 := below_size P1.out.2.2.2; simp only [World.alloc, Array.size_push] at h1; omega)); (case hV2 => exact Kd.V_mono P1.out.2.2.1 (fun k hk => by simp only [World.alloc, Array.size_push] at hk; omega)); rintro e1 w3 ⟨v3, rfl, hV3, hb3⟩; obtain ⟨A3, c3, rfl⟩ := Kd.V_slice hV3; have k1 := blk_below (blk_alloc (blk_alloc P1.out.2.1 _) _) hb3; have q3 := blk_lt k1; have n3 := Nat.ne_of_lt q3; have q4 : w.heap.size < w3.heap.size := Nat.lt_of_succ_lt q3; have n4 := Nat.ne_of_lt q4; have z0 := (blk_cell k1 0).trans rfl; have z1 := (blk_cell k1 1).trans rfl; have z2 := (blk_cell k1 2).trans rfl; have y0 := blk_frozen k1 0; have y1 := blk_frozen k1 1; have y2 := blk_frozen k1 2; have P3 := Aside0.mk (And.intro k1 (And.intro hV3 hb3)); clear s0 k1 hV3 hb3))
  have hB := below_step (below_alloc (below_alloc (below_step (below_alloc (below_alloc (Below.refl _ w) _) _) P1.out.2.2.2) _) _) P3.out.2.2
  refine bodyPost_ret (results_ct rfl _ _ (w.heap.size + 1) 45 #[.int .u8 0, .slice none 0 0, .slice none 0 0] (0, 0) _ rfl (blk_alloc (blk_put (blk_put (blk_put P3.out.1 0 _ rfl) 1 _ rfl) 2 _ rfl) _) Tryd.underlying45 rfl (by kernel_rfl)) rfl ?_
  exact ⟨_, rfl, Kd.V_nil _ _ _ _ _, below_alloc (below_set (below_set (below_set hB (Nat.le_succ _)) (Nat.le_succ _)) (Nat.le_succ _)) _⟩
 ·have hHe : H = (0, [], 91) := by
   rw [PG.out.2, hP]
   rfl
  have hGe : G = (0, [], 172) := by
   rw [PG.out.1, hP, hQ]
   rfl
  rw [hHe] at PL
  rw [hGe]
  rw [hQ] at PS
  clear hHe hGe PG hK
  dsimp only at PL PS ⊢
  subst hP hQ
  go_enter Tryd.func16, Tryd.ntmps16
  go_wp2_with (first
   | (go_at_call 15; refine (PL.out _ (Kd.C_alloc (Kd.C_alloc PR.out _) _)).mono ?_; rintro e1 w1 ⟨v1, rfl, hV1, hb1⟩; obtain ⟨A2, c2, rfl⟩ := Kd.V_slice hV1; have k0 := blk_below (blk_alloc (blk_new w _) _) hb1; have k1 := blk_below (blk_new1 w _ _) hb1; have q0 := blk_lt k0; have q1 := blk_lt k1; have n0 := Nat.ne_of_lt q0; have n1 := Nat.ne_of_lt q1; have s0 := (blk_cell k0 2).trans rfl; have P1 := Aside0.mk (And.intro k0 (And.intro k1 (And.intro hV1 hb1))); clear k0 k1 hV1 hb1)
   | (go_at_call 34; refine (PS.out w1 _ 0 ([] : List S45) A2 c2 45 0 (w.heap.size + 2) ?hB0 ?hV2 _ rfl).mono ?_; (case hB0 => (have h1 := below_size P1.out.2.2.2; simp only [World.alloc, Array.size_push] at h1; omega)); (case hV2 => exact Kd.V_mono P1.out.2.2.1 (fun k hk => by simp only [World.alloc, Array.size_push] at hk; omega)); rintro e1 w3 ⟨v3, rfl, hV3, hb3⟩; obtain ⟨A3, c3, rfl⟩ := Kd.V_slice hV3; have k1 := blk_below (blk_alloc (blk_alloc P1.out.2.1 _) _) hb3; have q3 := blk_lt k1; have n3 := Nat.ne_of_lt q3; have q4 : w.heap.size < w3.heap.size := Nat.lt_of_succ_lt q3; have n4 := Nat.ne_of_lt q4; have z0 := (blk_cell k1 0).trans rfl; have z1 := (blk_cell k1 1).trans rfl; have z2 := (blk_cell k1 2).trans rfl; have y0 := blk_frozen k1 0; have y1 := blk_frozen k1 1; have y2 := blk_frozen k1 2; have P3 := Aside0.mk (And.intro k1 (And.intro hV3 hb3)); clear s0 k1 hV3 hb3))
  have hB := below_step (below_alloc (below_alloc (below_step (below_alloc (below_alloc (Below.refl _ w) _) _) P1.out.2.2.2) _) _) P3.out.2.2
  refine bodyPost_ret (results_ct rfl _ _ (w.heap.size + 1) 45 #[.int .u8 0, .slice none 0 0, .slice none 0 0] (0, 0) _ rfl (blk_alloc (blk_put (blk_put (blk_put P3.out.1 0 _ rfl) 1 _ rfl) 2 _ rfl) _) Tryd.underlying45 rfl (by kernel_rfl)) rfl ?_
  exact ⟨_, rfl, Kd.V_nil _ _ _ _ _, below_alloc (below_set (below_set (below_set hB (Nat.le_succ _)) (Nat.le_succ _)) (Nat.le_succ _)) _⟩
end Go.Proofs.YtncanijjnhkgbaaDoor.PMsgsUnlike
namespace Go.Proofs.YtncanijjnhkgbaaDoor.PMsgsUnlike
open Go.RowKit Go.Proofs.YtncanijjnhkgbaaDoorW.PrintWords Go.Proofs.YtncanijjnhkgbaaDoorW.PrintLast Go.Proofs.YtncanijjnhkgbaaDoorW.PrintMore
theorem anyV_other (c : Int) (h0 : c ≠ 0) (h1 : c ≠ 1) (h2 : c ≠ 2) (h3 : c ≠ 3) (h4 : c ≠ 4) (h5 : c ≠ 5) : anyV c = anyV 6 := by
 unfold anyV
 rw [if_neg h0, if_neg h1, if_neg h2, if_neg h3, if_neg h4, if_neg h5]
 rfl
noncomputable def msgs_state.f (a0 : Int) (a1_0 : Int) (l1_1 : List Int) (a1_2 : ByteArray) (l1_3 : List ByteArray) (a1_4 : ByteArray) (l1_5 : List ByteArray) (a1_6 : Int) : Option (Int × List Int × (List (S45)) × Bool) := stateO a0 a1_0 l1_1 a1_2 l1_3 a1_4 l1_5 a1_6
theorem msgs_state.calls (a0 : Int) (a1_0 : Int) (A1_1 : Option Addr) (c1_1 : Nat) (l1_1 : List Int) (a1_2 : ByteArray) (A1_3 : Option Addr) (c1_3 : Nat) (l1_3 : List ByteArray) (a1_4 : ByteArray) (A1_5 : Option Addr) (c1_5 : Nat) (l1_5 : List ByteArray) (a1_6 : Int) (r1 : Int) (r2 : List Int) (r3 : List (S45)) (r4 : Bool) (w : World) (hr1_1 : Kd.C (Kd.int .u8) w A1_1 l1_1.length l1_1) (hc1_1 : l1_1.length ≤ c1_1) (hr1_3 : Kd.C Kd.string w A1_3 l1_3.length l1_3) (_ : l1_3.length ≤ c1_3) (hr1_5 : Kd.C Kd.string w A1_5 l1_5.length l1_5) (_ : l1_5.length ≤ c1_5) (h : msgs_state.f a0 a1_0 l1_1 a1_2 l1_3 a1_4 l1_5 a1_6 = some (r1, r2, r3, r4)) :
  Calls Tryd.prog 9 #[anyV a0, .agg #[.int .i64 a1_0, .slice A1_1 l1_1.length c1_1, .string a1_2, .slice A1_3 l1_3.length c1_3, .string a1_4, .slice A1_5 l1_5.length c1_5, .int .i64 a1_6]] w fun e w' => ∃ v1_ v2_ : Value, e = .returned (.tuple #[.agg #[.int .u8 r1, v1_, v2_], .bool r4]) ∧ Kd.V (Kd.int .u8) 5 w' w.heap.size (fun k_ => (w.heap.size ≤ k_)) v1_ r2 ∧ Kd.V k45 45 w' w.heap.size (fun k_ => (w.heap.size ≤ k_)) v2_ r3 ∧ Below w.heap.size w w' := by
 unfold msgs_state.f stateO at h
 by_cases h0 : a0 = 0
 ·rw [if_pos h0] at h
  subst h0
  by_cases hi : -9223372036854775808 ≤ a1_0 ∧ a1_0 ≤ 9223372036854775807
  ·rw [if_pos hi] at h
   simp only [Option.some.injEq, Prod.mk.injEq] at h
   obtain ⟨rfl, rfl, rfl, rfl⟩ := h
   exact state_int 2 (intE a1_0) [] a1_0 A1_1 c1_1 l1_1 a1_2 A1_3 c1_3 l1_3 a1_4 A1_5 c1_5 l1_5 a1_6 w (fun W _ => wire_Node_int64.calls a1_0 _ _ _ _ W hi.1 hi.2 rfl)
  ·rw [if_neg hi] at h; cases h
 rw [if_neg h0] at h
 by_cases h1 : a0 = 1
 ·rw [if_pos h1] at h
  subst h1
  simp only [Option.some.injEq, Prod.mk.injEq] at h
  obtain ⟨rfl, rfl, rfl, rfl⟩ := h
  refine state_bool 1 [if a1_0 = 1 then 255 else 0] [] a1_0 A1_1 c1_1 l1_1 a1_2 A1_3 c1_3 l1_3 a1_4 A1_5 c1_5 l1_5 a1_6 w (fun W _ => wire_Node_bool.calls (a1_0 == 1) _ _ _ _ W ?_)
  unfold wire_Node_bool.f
  by_cases hi : a1_0 = 1
  ·rw [if_pos hi, hi]
   rfl
  ·rw [if_neg hi, if_neg (by rw [beq_iff_eq]; exact hi)]
 rw [if_neg h1] at h
 by_cases h2 : a0 = 2
 ·rw [if_pos h2] at h
  subst h2
  by_cases hi : -631152000 ≤ a1_0 ∧ a1_0 ≤ 253402300799
  ·rw [if_pos hi] at h
   simp only [Option.some.injEq, Prod.mk.injEq] at h
   obtain ⟨rfl, rfl, rfl, rfl⟩ := h
   refine state_time _ _ [] a1_0 A1_1 c1_1 l1_1 a1_2 A1_3 c1_3 l1_3 a1_4 A1_5 c1_5 l1_5 a1_6 w (fun W _ => wire_Node_wireMoment.calls a1_0 _ _ _ _ W ?_)
   unfold wire_Node_wireMoment.f
   rw [if_pos hi]
  ·rw [if_neg hi] at h
   simp only [Option.some.injEq, Prod.mk.injEq] at h
   obtain ⟨rfl, rfl, rfl, rfl⟩ := h
   refine state_time_no 0 [] [] a1_0 A1_1 c1_1 l1_1 a1_2 A1_3 c1_3 l1_3 a1_4 A1_5 c1_5 l1_5 a1_6 w (fun W _ => wire_Node_wireMoment.calls a1_0 _ _ _ _ W ?_)
   unfold wire_Node_wireMoment.f
   rw [if_neg hi]
 rw [if_neg h2] at h
 by_cases h3 : a0 = 3
 ·rw [if_pos h3] at h
  subst h3
  by_cases hl : l1_1.length ≤ 1048576
  ·rw [if_pos hl] at h
   simp only [Option.some.injEq, Prod.mk.injEq] at h
   obtain ⟨rfl, rfl, rfl, rfl⟩ := h
   refine state_bytes 4 l1_1 [] a1_0 A1_1 c1_1 l1_1 a1_2 A1_3 c1_3 l1_3 a1_4 A1_5 c1_5 l1_5 a1_6 w (fun W hb => wire_Node_uint8.calls A1_1 c1_1 l1_1 _ _ _ _ W (Kd.C_below hr1_1 hb) hc1_1 ?_)
   unfold wire_Node_uint8.f
   rw [if_pos hl]
  ·rw [if_neg hl] at h; cases h
 rw [if_neg h3] at h
 by_cases h4 : a0 = 4
 ·rw [if_pos h4] at h
  subst h4
  by_cases hi : 0 ≤ a1_0 ∧ a1_0 < 281474976710656
  ·rw [if_pos hi] at h
   simp only [Option.some.injEq, Prod.mk.injEq] at h
   obtain ⟨rfl, rfl, rfl, rfl⟩ := h
   refine state_handle 4 (hE a1_0) [] a1_0 A1_1 c1_1 l1_1 a1_2 A1_3 c1_3 l1_3 a1_4 A1_5 c1_5 l1_5 a1_6 w (fun W _ => wire_Node_wireHandle.calls a1_0 _ _ _ _ W ?_)
   unfold wire_Node_wireHandle.f
   rw [if_pos hi]
  ·rw [if_neg hi] at h
   simp only [Option.some.injEq, Prod.mk.injEq] at h
   obtain ⟨rfl, rfl, rfl, rfl⟩ := h
   refine state_handle_no 4 [] [] a1_0 A1_1 c1_1 l1_1 a1_2 A1_3 c1_3 l1_3 a1_4 A1_5 c1_5 l1_5 a1_6 w (fun W _ => wire_Node_wireHandle.calls a1_0 _ _ _ _ W ?_)
   unfold wire_Node_wireHandle.f
   rw [if_neg hi]
 rw [if_neg h4] at h
 by_cases h5 : a0 = 5
 ·rw [if_pos h5] at h
  subst h5
  unfold princO at h
  by_cases hg : l1_3.length ≤ 1048576 ∧ a1_2.size ≤ 1048576 ∧ (∀ s ∈ l1_3, s.size ≤ 1048576)
  ·rw [if_pos hg] at h
   have hN := fun W (hb : Below w.heap.size w W) => princ_calls a1_2 A1_3 c1_3 l1_3 W (Kd.C_below hr1_3 hb) hg.1 hg.2.1 hg.2.2
   by_cases hp : princOk a1_2 l1_3 = true
   ·rw [if_pos hp] at h
    simp only [Option.bind_some, Option.some.injEq, Prod.mk.injEq, decide_true, Bool.true_and] at h
    obtain ⟨rfl, rfl, rfl, rfl⟩ := h
    refine state_princ 48 [] (princK a1_2 l1_3) a1_0 A1_1 c1_1 l1_1 a1_2 A1_3 c1_3 l1_3 a1_4 A1_5 c1_5 l1_5 a1_6 w (fun W hb => ?_)
    have hW := hN W hb
    rw [hp] at hW
    refine hW.mono ?_
    rintro e' w' ⟨v, rfl, hV, hB⟩
    exact ⟨_, _, rfl, Kd.V_nil _ _ _ _ _, Kd.V_mono hV (fun k hk => by omega), hB⟩
   ·rw [if_neg hp] at h
    simp only [Option.bind_some, Option.some.injEq, Prod.mk.injEq] at h
    obtain ⟨rfl, rfl, rfl, h⟩ := h
    have h : false = r4 := by rw [← h]; rfl
    subst h
    refine state_princ_no 0 [] [] 91 (by decide) a1_0 A1_1 c1_1 l1_1 a1_2 A1_3 c1_3 l1_3 a1_4 A1_5 c1_5 l1_5 a1_6 w (fun W hb => ?_)
    have hW := hN W hb
    rw [Bool.eq_false_iff.2 hp] at hW
    refine hW.mono ?_
    rintro e' w' ⟨v, rfl, hV, hB⟩
    exact ⟨_, _, rfl, Kd.V_nil _ _ _ _ _, Kd.V_mono hV (fun k hk => by omega), hB⟩
  ·rw [if_neg hg] at h; cases h
 rw [if_neg h5] at h
 rw [anyV_other a0 h0 h1 h2 h3 h4 h5]
 unfold ticketO at h
 by_cases hg : l1_5.length ≤ 1048576 ∧ a1_4.size ≤ 1048576 ∧ (∀ s ∈ l1_5, s.size ≤ 1048576)
 ·rw [if_pos hg] at h
  have hN := fun W (hb : Below w.heap.size w W) => ticket_calls a1_4 A1_5 c1_5 l1_5 a1_6 W (Kd.C_below hr1_5 hb) hg.1 hg.2.1 hg.2.2
  by_cases hp : princOk a1_4 l1_5 = true ∧ 0 ≤ a1_6 ∧ a1_6 < 281474976710656
  ·rw [if_pos hp] at h
   simp only [Option.bind_some, Option.some.injEq, Prod.mk.injEq, decide_true, Bool.true_and] at h
   obtain ⟨rfl, rfl, rfl, rfl⟩ := h
   have hq : (princOk a1_4 l1_5 && inR a1_6) = true := by
    unfold inR
    rw [hp.1, decide_eq_true hp.2.1, decide_eq_true hp.2.2]
    rfl
   refine state_ticket 97 [] _ a1_0 A1_1 c1_1 l1_1 a1_2 A1_3 c1_3 l1_3 a1_4 A1_5 c1_5 l1_5 a1_6 w (fun W hb => ?_)
   have hW := hN W hb
   rw [hq] at hW
   refine hW.mono ?_
   rintro e' w' ⟨v, rfl, hV, hB⟩
   exact ⟨_, _, rfl, Kd.V_nil _ _ _ _ _, Kd.V_mono hV (fun k hk => by omega), hB⟩
  ·rw [if_neg hp] at h
   simp only [Option.bind_some, Option.some.injEq, Prod.mk.injEq] at h
   obtain ⟨rfl, rfl, rfl, h⟩ := h
   have h : false = r4 := by rw [← h]; rfl
   subst h
   have hq : (princOk a1_4 l1_5 && inR a1_6) = false := by
    rw [Bool.eq_false_iff]
    intro hx
    unfold inR at hx
    rw [Bool.and_eq_true, Bool.and_eq_true, decide_eq_true_eq, decide_eq_true_eq] at hx
    exact hp hx
   refine state_ticket_no 0 [] [] 172 (by decide) a1_0 A1_1 c1_1 l1_1 a1_2 A1_3 c1_3 l1_3 a1_4 A1_5 c1_5 l1_5 a1_6 w (fun W hb => ?_)
   have hW := hN W hb
   rw [hq] at hW
   refine hW.mono ?_
   rintro e' w' ⟨v, rfl, hV, hB⟩
   exact ⟨_, _, rfl, Kd.V_nil _ _ _ _ _, Kd.V_mono hV (fun k hk => by omega), hB⟩
 ·rw [if_neg hg] at h; cases h
end Go.Proofs.YtncanijjnhkgbaaDoor.PMsgsUnlike
namespace Go.Proofs.YtncanijjnhkgbaaDoor.PMsgsUnlike
open Go.RowKit Go.Proofs.YtncanijjnhkgbaaDoorW.PrintWords Go.Proofs.YtncanijjnhkgbaaDoorW.PrintLast Go.Proofs.YtncanijjnhkgbaaDoorW.PrintMore
theorem caught_nil (w : World) : Calls Tryd.prog 18 #[.nilIface] w fun e w' => e = .returned (.agg #[.int .i64 0, .int .i64 0]) ∧ w' = w.alloc (.cells #[.int .i64 0, .int .i64 0] 59) := by
 go_enter Tryd.func18, Tryd.ntmps18
 go_wp2
 exact bodyPost_ret (v := .agg #[.int .i64 0, .int .i64 0]) (by simp [results, Tryd.results18, go_sem]) rfl ⟨rfl, rfl⟩
theorem print_idle (p q : Addr) (w : World) :
  CallsD Tryd.prog 17 #[.pointer (some p), .pointer (some q)] .returning w fun e u' w' => e = .returned (.tuple #[]) ∧ u' = .returning ∧ Below w.heap.size w w' := by
 refine callsD_of_wpS Tryd.func17 rfl fun c₀ cs hu => ?_
 apply wpS_seq
 apply wpS_region
 simp [wpOpsS, go_sem, recoverD, hu, Tryd.ntmps17, Exit.thenS]
 refine (caught_nil _).mono ?_
 rintro e w' ⟨rfl, rfl⟩
 simp [wpOpsS, go_sem, recoverD, hu, Tryd.ntmps17, Exit.thenS]
 apply wpS_seq
 apply wpS_region
 simp [wpOpsS, go_sem, Exit.thenS]
 refine wpS_cond (t := false) (by simp [Act.eval, Array.replicate]) ?_
 simp only [Bool.false_eq_true, if_false]
 refine wpS_of_wp (wp_skip ?_)
 cases c₀
 simp_all [bodyPostS, results, Tryd.results17]
 exact ((Below.refl _ w).alloc (Nat.le_refl _) _).alloc (by simp) _
open Classical in
noncomputable def nodes_Print.f (a0_0 : Int) (l0_1 : List Int) (l0_2 : List (S45)) : Option (List Int × Int) := if h : ∃ r k, nodes_printed.f k a0_0 l0_1 l0_2 0 = some r then some (h.choose, 0) else none
theorem nodes_Print.calls (a0_0 : Int) (A0_1 : Option Addr) (c0_1 : Nat) (l0_1 : List Int) (A0_2 : Option Addr) (c0_2 : Nat) (l0_2 : List (S45)) (r1 : List Int) (r2 : Int) (w : World) (hr0_1 : Kd.C (Kd.int .u8) w A0_1 l0_1.length l0_1) (hc0_1 : l0_1.length ≤ c0_1) (hr0_2 : Kd.C k45 w A0_2 l0_2.length l0_2) (hc0_2 : l0_2.length ≤ c0_2) (h : nodes_Print.f a0_0 l0_1 l0_2 = some (r1, r2)) :
  Calls Tryd.prog 10 #[.agg #[.int .u8 a0_0, .slice A0_1 l0_1.length c0_1, .slice A0_2 l0_2.length c0_2]] w fun e w' => ∃ v0_ : Value, e = .returned (.tuple #[v0_, .int .i64 r2]) ∧ Kd.R (Kd.int .u8) 5 w' w.heap.size (fun _ => True) v0_ r1 ∧ Below w.heap.size w w' := by
 obtain ⟨⟨k, hk⟩, rfl⟩ : (∃ k, nodes_printed.f k a0_0 l0_1 l0_2 0 = some r1) ∧ r2 = 0 := by
  unfold nodes_Print.f at h
  split at h
  ·rename_i hx
   obtain ⟨rfl, rfl⟩ := Prod.mk.inj (Option.some.inj h)
   exact ⟨hx.choose_spec, rfl⟩
  ·cases h
 clear h
 have hP := fun (W : World) (hb : Below w.heap.size w W) => nodes_printed.calls k a0_0 A0_1 c0_1 l0_1 A0_2 c0_2 l0_2 0 r1 W (Kd.C_below hr0_1 hb) hc0_1 (Kd.C_below hr0_2 hb) hc0_2 hk
 have PP := Aside0.mk hP
 clear hP hr0_1 hr0_2 hc0_1 hc0_2 hk
 have hmf : ∀ (fn : Fn) (first cap : Array Value) (w : World), (Instr.makeFunc fn first cap).run Tryd.prog w = .ok (.func fn first cap) w := fun _ _ _ _ => rfl
 go_enter_defers Tryd.func10, Tryd.ntmps10
 go_wp2_with (fail)
 have k1 := blk_alloc (blk_new (w.alloc (.cells #[.int .u8 a0_0, .slice A0_1 l0_1.length c0_1, .slice A0_2 l0_2.length c0_2] 45)) (.cells #[.slice none 0 0] 25)) (.cells #[.int .i64 0] 26)
 rw [World.size_alloc] at k1
 have k2 := blk_new ((w.alloc (.cells #[.int .u8 a0_0, .slice A0_1 l0_1.length c0_1, .slice A0_2 l0_2.length c0_2] 45)).alloc (.cells #[.slice none 0 0] 25)) (.cells #[.int .i64 0] 26)
 rw [World.size_alloc, World.size_alloc] at k2
 have hb0 : Below w.heap.size w (((w.alloc (.cells #[.int .u8 a0_0, .slice A0_1 l0_1.length c0_1, .slice A0_2 l0_2.length c0_2] 45)).alloc (.cells #[.slice none 0 0] 25)).alloc (.cells #[.int .i64 0] 26)) := below_alloc (below_alloc (below_alloc (Below.refl _ _) _) _) _
 generalize (((w.alloc (.cells #[.int .u8 a0_0, .slice A0_1 l0_1.length c0_1, .slice A0_2 l0_2.length c0_2] 45)).alloc (.cells #[.slice none 0 0] 25)).alloc (.cells #[.int .i64 0] 26)) = W at k1 k2 hb0 ⊢
 refine (PP.out W hb0).mono ?_
 rintro e w1 ⟨v, rfl, hR, hb⟩
 obtain ⟨Ar, cr, rfl⟩ := Kd.R_slice hR
 have j1 := blk_below k1 hb
 have j2 := blk_below k2 hb
 have z1 := (blk_cell j1 0).trans rfl
 have z2 := (blk_cell j2 0).trans rfl
 have y1 := blk_frozen j1 0
 have y2 := blk_frozen j2 0
 have hz := blk_lt k2
 have hR2 := Kd.R_far (Kd.R_far (Kd.R_bound hR) (p := ⟨w.heap.size + 1, 0, none⟩) (fun k hk => by have := hk.2.1; show k ≠ w.heap.size + 1; omega) (.slice Ar r1.length cr)) (p := ⟨w.heap.size + 1 + 1, 0, none⟩) (fun k hk => by have := hk.2.1; show k ≠ w.heap.size + 1 + 1; omega) (.int .i64 0)
 have hb2 := below_set (below_set (Below.trans hb0 (hb.mono hb0.size)) (g := w.heap.size + 1) (j := 0) (v := .slice Ar r1.length cr) (Nat.le_succ _)) (g := w.heap.size + 1 + 1) (j := 0) (v := .int .i64 0) (Nat.le_add_right _ 2)
 have m1 := blk_far (blk_put j1 0 (.slice Ar r1.length cr) rfl) (p := ⟨w.heap.size + 1 + 1, 0, none⟩) (by show w.heap.size + 1 ≠ w.heap.size + 1 + 1; omega) (.int .i64 0)
 have m2 := blk_put (blk_far j2 (p := ⟨w.heap.size + 1, 0, none⟩) (by show w.heap.size + 1 + 1 ≠ w.heap.size + 1; omega) (.slice Ar r1.length cr)) 0 (.int .i64 0) rfl
 have PJ := Aside0.mk (And.intro m1 (And.intro m2 (And.intro hR2 (And.intro hb2 (And.intro hb0.size hz)))))
 clear j1 j2 hR hb hb0 k1 k2 PP hR2 hb2 m1 m2 hz
 go_wp2
 obtain ⟨m1, m2, hR2, hb2, hz⟩ := PJ.out
 generalize ((w1.setCell ⟨w.heap.size + 1, 0, none⟩ (.slice Ar r1.length cr)).setCell ⟨w.heap.size + 1 + 1, 0, none⟩ (.int .i64 0)) = W2 at m1 m2 hR2 hb2 ⊢
 clear PJ z1 z2 y1 y2
 refine leaves_cons (f := 17) (args := #[.pointer (some ⟨w.heap.size + 1, 0, none⟩), .pointer (some ⟨w.heap.size + 1 + 1, 0, none⟩)]) (by simp) (by simp [go_sem]) ?_
 refine (print_idle _ _ _).mono ?_
 rintro e u' w'' ⟨rfl, rfl, hB⟩
 have z1 := (blk_cell (blk_below m1 hB) 0).trans rfl
 have z2 := (blk_cell (blk_below m2 hB) 0).trans rfl
 simp [Leaves, settle, results, Tryd.results10, go_sem, z1, z2]
 exact ⟨Kd.R_mono (Kd.R_lower (Kd.R_below hR2 hB) hz.1) (fun _ _ => trivial), hb2.trans (hB.mono hb2.size)⟩
end Go.Proofs.YtncanijjnhkgbaaDoor.PMsgsUnlike
