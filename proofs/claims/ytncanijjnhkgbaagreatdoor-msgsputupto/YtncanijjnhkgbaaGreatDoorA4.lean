/- A part of the proof of the law MsgsPut, put together by a program of this seat's prover (wip/pack.py): its own texts, what a changed copy of the kit's printer (wip/mkprint.py) printed. No condition. -/
import Derived.Test.YtncanijjnhkgbaaGreatDoorA3
import Derived.Lib.Bytes
import Derived.Test.YtncanijjnhkgbaaGreatDoorA2
set_option linter.unusedVariables false
set_option linter.unusedSimpArgs false
namespace Go.Proofs.YtncanijjnhkgbaaGreatDoor.PMsgsPut
open Go.RowKit Go.Proofs.YtncanijjnhkgbaaGreatDoorW.PrintWords Go.Proofs.YtncanijjnhkgbaaGreatDoorW.PrintLast Go.Proofs.YtncanijjnhkgbaaGreatDoorW.PrintMore
set_option maxRecDepth 100000 in
set_option maxHeartbeats 1000000 in
theorem refPut_yes (s : Int) (h1 : -631152000 ≤ s) (h2 : s ≤ 253402300799) (w : World) :
  Calls Tryz.prog 63 #[.int .i64 s] w fun e w' => ∃ v : Value, e = .returned (.tuple #[.int .u8 (timeT s), v, .int .i64 0]) ∧ Kd.R (Kd.int .u8) 5 w' w.heap.size (fun _ => True) v (timeE s) ∧ Below w.heap.size w w' := by
 obtain ⟨q, r, day, Y, M, d, ⟨q1, q2⟩, ⟨r1, r2⟩, ⟨bd1, bd2⟩, ⟨y1, y2⟩, ⟨m1, m2⟩, ⟨d1, d2⟩, e1, e2, e3, hday, hlen, hT, hL⟩ := put_facts s h1 h2
 have PF := Aside0.mk (And.intro hday (And.intro hlen (And.intro hT hL)))
 have PB0 := Aside0.mk (And.intro (And.intro y1 y2) (And.intro (And.intro m1 m2) (And.intro d1 d2)))
 have c1 : ¬ s < -631152000 := by omega
 have c2 : ¬ s > 253402300799 := by omega
 obtain ⟨n1, hn1⟩ : ∃ n : Nat, (n : Int) = Y - 1950 := ⟨(Y - 1950).toNat, by omega⟩
 obtain ⟨n2, hn2⟩ : ∃ n : Nat, (n : Int) = M - 1 := ⟨(M - 1).toNat, by omega⟩
 have PN := Aside0.mk (And.intro hn1 hn2)
 clear hday hlen hT hL hn1 hn2 m1 m2 d1 d2 y1 y2
 go_enter Tryz.func63, Tryz.ntmps63
 go_wp2
 go_loopg [7] n1 (fun g v7 wx => ∃ y : Int, y + g = Y ∧ 1950 ≤ y ∧ v7 = .int .i64 y ∧ Below w.heap.size w wx)
 case atStart => exact ⟨1950, by have := PN.out.1; omega, by omega, rfl, Below.refl _ _⟩
 case round =>
  obtain ⟨y, hyg, hy0, rfl, hb⟩ := hrel
  have PB := Aside0.mk hb
  clear hb e1 e2 e3 c1 c2 q1 q2 h1 h2
  have PR := Aside0.mk (And.intro r1 r2)
  clear r1 r2
  have hyY : y ≤ 9999 := by have := PB0.out.1.2; omega
  have y1p : wrap64 (y + 1) = y + 1 := wrap_id (by omega) (by omega)
  cases gk with
  | zero =>
   obtain rfl : y = Y := by omega
   have k1 := cum_hi y M d PB0.out.2.1.1 PB0.out.2.1.2 PF.out.2.1
   have k2 := cum_lo y M d PB0.out.2.1.1 PB0.out.2.1.2 PB0.out.2.2.1
   have k3 := daysO_succ y
   have k5 := leapO_01 y
   have k4 := PF.out.1
   have c3 : decide (daysO (y + 1) ≤ day) = false := decide_eq_false (by omega)
   obtain ⟨dy, hdy⟩ : ∃ dy, dy = daysO y := ⟨_, rfl⟩
   obtain ⟨dz, hdz⟩ : ∃ dz, dz = daysO (y + 1) := ⟨_, rfl⟩
   have F1 := Aside0.mk (fun W => warderref03_days.calls (y + 1) dz W (by rw [hdz]; exact days_some (y + 1) (by omega) (by omega)))
   have F2 := Aside0.mk (fun W => warderref03_days.calls y dy W (by rw [hdy]; exact days_some y (by omega) (by omega)))
   rw [← hdz] at c3
   rw [← hdy] at k4
   obtain ⟨dd, hdd⟩ : ∃ dd, dd = cumO y M + d - 1 := ⟨_, rfl⟩
   have hw : wrap64 (day - dy) = dd := by rw [show day - dy = dd by omega]; exact wrap_id (by omega) (by omega)
   have PD := Aside0.mk hdd
   clear k1 k2 k3 k4 k5 hdd hdy hdz hyg bd1 bd2
   go_wp2_with (go_at_call 91; first | ((with_reducible refine (F1.out _).mono ?_); rintro e w1 ⟨rfl, ⟨nd, rfl⟩⟩) | ((with_reducible refine (F2.out _).mono ?_); rintro e w2 ⟨rfl, ⟨nd2, rfl⟩⟩))
   have PQ := Aside0.mk (pw_below_drewN PB.out (nd + nd2))
   clear c3 PB F1 F2
   go_loopg [6, 8] n2 (fun g v6 v8 wx => ∃ m x : Int, m + g = M ∧ 1 ≤ m ∧ x = dd - cumO y m ∧ v6 = .int .i64 x ∧ v8 = .int .i64 m ∧ Below w.heap.size w wx)
   case atStart => exact ⟨1, dd, by have := PN.out.2; omega, by omega, by rw [show cumO y 1 = 0 from rfl]; omega, by first | rfl | rw [hw], rfl, PQ.out⟩
   case round =>
    clear hw
    obtain ⟨m, x, hmg, hm0, hx, rfl, rfl, hb⟩ := hrel
    clear PQ
    have PQ := Aside0.mk hb
    clear hb
    have hm12 : m ≤ 12 := by have := PB0.out.2.1.2; omega
    obtain ⟨ml, hml⟩ : ∃ ml, ml = monL y m := ⟨_, rfl⟩
    have F3 := Aside0.mk (fun W => warderref03_month.calls y m ml W (by rw [hml]; exact month_some y m (by omega) hm0 hm12))
    have m1p : wrap64 (m + 1) = m + 1 := wrap_id (by omega) (by omega)
    cases gk with
    | zero =>
     obtain rfl : m = M := by omega
     obtain rfl : x = d - 1 := by have := PD.out; omega
     have hlm : d ≤ ml := by rw [hml]; exact PF.out.2.1
     have hd := PB0.out.2.2
     have hr := PR.out
     have c4 : decide (d - 1 ≥ ml) = false := decide_eq_false (by omega)
     obtain ⟨a1, ha1⟩ : ∃ a, a = y / 100 := ⟨_, rfl⟩
     obtain ⟨a2, ha2⟩ : ∃ a, a = y % 100 := ⟨_, rfl⟩
     obtain ⟨a4, ha4⟩ : ∃ a, a = r / 3600 := ⟨_, rfl⟩
     obtain ⟨a8, ha8⟩ : ∃ a, a = r / 60 := ⟨_, rfl⟩
     obtain ⟨a5, ha5⟩ : ∃ a, a = a8 % 60 := ⟨_, rfl⟩
     obtain ⟨a6, ha6⟩ : ∃ a, a = r % 60 := ⟨_, rfl⟩
     have t1 : Int.tdiv y 100 = a1 := by rw [tdiv_nn _ (by omega), ha1]
     have t2 : Int.tmod y 100 = a2 := by rw [tmod_nn _ (by omega), ha2]
     have t3 : wrap64 d = d := wrap_id (by omega) (by omega)
     have t4 : Int.tdiv r 3600 = a4 := by rw [tdiv_nn _ (by omega), ha4]
     have t5 : Int.tdiv r 60 = a8 := by rw [tdiv_nn _ (by omega), ha8]
     have t6 : Int.tmod a8 60 = a5 := by rw [tmod_nn _ (by omega), ha5]
     have t7 : Int.tmod r 60 = a6 := by rw [tmod_nn _ (by omega), ha6]
     have w1 : wrap64 a1 = a1 := wrap_id (by omega) (by omega)
     have w4 : wrap64 a4 = a4 := wrap_id (by omega) (by omega)
     have w8 : wrap64 a8 = a8 := wrap_id (by omega) (by omega)
     have G1 := Aside0.mk (two_calls a1 (by omega) (by omega))
     have G2 := Aside0.mk (two_calls a2 (by omega) (by omega))
     have G3 := Aside0.mk (two_calls m (by omega) (by omega))
     have G4 := Aside0.mk (two_calls d (by omega) (by omega))
     have G5 := Aside0.mk (two_calls a4 (by omega) (by omega))
     have G6 := Aside0.mk (two_calls a5 (by omega) (by omega))
     have G7 := Aside0.mk (two_calls a6 (by omega) (by omega))
     have hL := PF.out.2.2.2
     rw [show y / 1000 = a1 / 10 by omega, show y / 100 % 10 = a1 % 10 by rw [ha1], ← ha2, ← ha4, ← ha8, ← ha5, ← ha6] at hL
     have hT := PF.out.2.2.1
     have PX := Aside0.mk (And.intro hT hL)
     clear hd hr hL hT ha1 ha2 ha4 ha8 ha5 ha6 hlm hml hx hmg
     by_cases hy2 : y < 2050
     case' pos =>
      have c5 : decide (y < 2050) = true := decide_eq_true hy2
      have PE : Aside0 (timeT s = 23 ∧ timeE s = (((((([a2 / 10 + 48, a2 % 10 + 48] ++ [m / 10 + 48, m % 10 + 48]) ++ [d / 10 + 48, d % 10 + 48]) ++ [a4 / 10 + 48, a4 % 10 + 48]) ++ [a5 / 10 + 48, a5 % 10 + 48]) ++ [a6 / 10 + 48, a6 % 10 + 48]) ++ [90])) := by
       have h := PX.out.1
       rw [if_pos hy2] at h
       refine ⟨h, ?_⟩
       unfold timeE
       rw [if_pos h, PX.out.2]
       rfl
      go_wp2_with (first | (go_at_call 92; (with_reducible refine (F3.out _).mono ?_); rintro e w0 ⟨rfl, hb⟩; have PQ' := Aside0.mk (below_step PQ.out hb); clear hb PQ; have PQ := PQ'; clear PQ') | (go_at_call 93; (with_reducible refine (G1.out _).mono ?_); rintro e w1 ⟨ad1, c1, rfl, hr1, hb1⟩; have P1 := Aside0.mk (And.intro (Kd.R_lower hr1 (below_size PQ.out)) (below_step PQ.out hb1)); clear hr1 hb1) | (go_at_call 93; (with_reducible refine (G2.out _).mono ?_); rintro e w2 ⟨ad2, c2, rfl, hr2, hb2⟩; have P2 := Aside0.mk (And.intro hr2 hb2); clear hr2 hb2) | ((with_reducible refine gate_builtin (b := .append) rfl ?_); at_builtin; refine Kd.R_append_row (Value.int .u8) (0 : Int) (w0 := w) w.heap.size rfl _ _ 25 5 (.int .u8 0) 1 rfl Tryz.underlying25 info5 rfl (by decide) (.slice (some ad1) 2 c1) [a1 / 10 + 48, a1 % 10 + 48] [a2 / 10 + 48, a2 % 10 + 48] (some ad2) 2 c2 (fun _ => True) rfl rfl (fun _ _ => trivial) (Kd.R_below P1.out.1 P2.out.2) (Kd.R_reads' P2.out.1).2.2 (below_step P1.out.2 P2.out.2) (below_size (below_step P1.out.2 P2.out.2)) ?hlen ?_; (case hlen => (simp)); intro v3 w3 hr hb hg hat; clear hg hat; have P3 := Aside0.mk (And.intro hr hb); clear hr hb))
      have PV := Aside0.mk (And.intro (Kd.R_lower P2.out.1 (below_size P3.out.2)) (below_step P3.out.2 P2.out.2))
     case' neg =>
      have c5 : decide (y < 2050) = false := decide_eq_false hy2
      have PE : Aside0 (timeT s = 24 ∧ timeE s = ((((((([a1 / 10 + 48, a1 % 10 + 48] ++ [a2 / 10 + 48, a2 % 10 + 48]) ++ [m / 10 + 48, m % 10 + 48]) ++ [d / 10 + 48, d % 10 + 48]) ++ [a4 / 10 + 48, a4 % 10 + 48]) ++ [a5 / 10 + 48, a5 % 10 + 48]) ++ [a6 / 10 + 48, a6 % 10 + 48]) ++ [90])) := by
       have h := PX.out.1
       rw [if_neg hy2] at h
       refine ⟨h, ?_⟩
       unfold timeE
       rw [if_neg (by rw [h]; decide), PX.out.2]
       rfl
      go_wp2_with (first | (go_at_call 92; (with_reducible refine (F3.out _).mono ?_); rintro e w0 ⟨rfl, hb⟩; have PQ' := Aside0.mk (below_step PQ.out hb); clear hb PQ; have PQ := PQ'; clear PQ') | (go_at_call 93; (with_reducible refine (G1.out _).mono ?_); rintro e w1 ⟨ad1, c1, rfl, hr1, hb1⟩; have P1 := Aside0.mk (And.intro (Kd.R_lower hr1 (below_size PQ.out)) (below_step PQ.out hb1)); clear hr1 hb1) | (go_at_call 93; (with_reducible refine (G2.out _).mono ?_); rintro e w2 ⟨ad2, c2, rfl, hr2, hb2⟩; have P2 := Aside0.mk (And.intro hr2 hb2); clear hr2 hb2) | ((with_reducible refine gate_builtin (b := .append) rfl ?_); at_builtin; refine Kd.R_append_row (Value.int .u8) (0 : Int) (w0 := w) w.heap.size rfl _ _ 25 5 (.int .u8 0) 1 rfl Tryz.underlying25 info5 rfl (by decide) (.slice (some ad1) 2 c1) [a1 / 10 + 48, a1 % 10 + 48] [a2 / 10 + 48, a2 % 10 + 48] (some ad2) 2 c2 (fun _ => True) rfl rfl (fun _ _ => trivial) (Kd.R_below P1.out.1 P2.out.2) (Kd.R_reads' P2.out.1).2.2 (below_step P1.out.2 P2.out.2) (below_size (below_step P1.out.2 P2.out.2)) ?hlen ?_; (case hlen => (simp)); intro v3 w3 hr hb hg hat; clear hg hat; have P3 := Aside0.mk (And.intro hr hb); clear hr hb))
      have PV := P3
     all_goals
      clear PX c5 c4 t1 t2 G1 G2
      go_wp2_with (first | (go_at_call 93; (with_reducible first | refine (G3.out _).mono ?_ | refine (G4.out _).mono ?_ | refine (G5.out _).mono ?_ | refine (G6.out _).mono ?_ | refine (G7.out _).mono ?_); rintro e wa ⟨ad, c, rfl, hr, hb⟩; have P5 := Aside0.mk (And.intro hr hb); clear hr hb) | ((with_reducible refine gate_builtin (b := .append) rfl ?_); at_builtin; refine Kd.R_append_row (Value.int .u8) (0 : Int) (w0 := w) w.heap.size rfl _ _ 25 5 (.int .u8 0) 1 rfl Tryz.underlying25 info5 rfl (by decide) _ _ _ _ _ _ (fun _ => True) rfl rfl (fun _ _ => trivial) (Kd.R_below PV.out.1 P5.out.2) (Kd.R_reads' P5.out.1).2.2 (below_step PV.out.2 P5.out.2) (below_size (below_step PV.out.2 P5.out.2)) ?hlen ?_; (case hlen => (simp)); intro v5 w5 hr hb hg hat; clear hg hat; clear PV P5; have PV := Aside0.mk (And.intro hr hb); clear hr hb) | ((with_reducible refine gate_builtin (b := .append) rfl ?_); at_builtin; refine Kd.R_append_row (Value.int .u8) (0 : Int) (w0 := w) w.heap.size rfl _ _ 25 5 (.int .u8 0) 1 rfl Tryz.underlying25 info5 rfl (by decide) _ _ _ _ _ _ (fun _ => True) rfl rfl (fun _ _ => trivial) (Kd.R_alloc PV.out.1 _) (one_C _ _ _ rfl) (below_alloc PV.out.2 _) (below_size (below_alloc PV.out.2 _)) ?hlen ?_; (case hlen => (simp)); intro v6 w6 hr hb hg hat; clear hg hat; clear PV; have PV := Aside0.mk (And.intro hr hb); clear hr hb))
      go_ret3
      rw [PE.out.1, PE.out.2]
      exact ⟨_, rfl, PV.out.1, PV.out.2⟩
    | succ g =>
     have k1 := cumO_succ y m hm0 hm12
     have k2 := cumO_le y (a := m + 1) (b := M) (by omega) (by omega) (by have := PB0.out.2.1.2; omega)
     have k3 := PD.out
     have k4 := PB0.out.2.2
     have k5 := cumO_bd y m hm0 hm12
     have k6 := cumO_bd y M (by omega) PB0.out.2.1.2
     have hmb : 28 ≤ ml ∧ ml ≤ 31 := by rw [hml]; exact monL_pos y m
     have c4 : decide (x ≥ ml) = true := decide_eq_true (by omega)
     obtain ⟨z, hz⟩ : ∃ z, z = x - ml := ⟨_, rfl⟩
     have hw : wrap64 (x - ml) = z := by rw [← hz]; exact wrap_id (by omega) (by omega)
     have hz2 : z = dd - cumO y (m + 1) := by omega
     clear k1 k2 k3 k4 k5 k6 hmb hx hml
     go_wp2_with (go_at_call 92; (with_reducible refine (F3.out _).mono ?_); rintro e w0 ⟨rfl, hb⟩; have PQ' := Aside0.mk (below_step PQ.out hb); clear hb PQ; have PQ := PQ'; clear PQ')
     go_roundg g
     case measure => omega
     case rel => exact ⟨m + 1, z, by omega, by omega, hz2, by first | rfl | rw [hw], by first | rfl | simp, PQ.out⟩
  | succ g =>
   have c3 : decide (daysO (y + 1) ≤ day) = true := decide_eq_true (by have h3 := PF.out.1; have h4 := daysO_le (y := y + 1) (z := Y) (by omega); have := cum_lo Y M d PB0.out.2.1.1 PB0.out.2.1.2 PB0.out.2.2.1; omega)
   have F1 := Aside0.mk (fun W => warderref03_days.calls (y + 1) _ W (days_some (y + 1) (by omega) (by omega)))
   go_wp2_with (go_at_call 91; (with_reducible refine (F1.out _).mono ?_); rintro e w1 ⟨rfl, ⟨nd, rfl⟩⟩)
   go_roundg g
   case measure => omega
   case rel => exact ⟨y + 1, by omega, by omega, by first | rfl | simp, by first | exact PB.out | exact pw_below_drewN PB.out _⟩
end Go.Proofs.YtncanijjnhkgbaaGreatDoor.PMsgsPut
namespace Go.Proofs.YtncanijjnhkgbaaGreatDoor.PMsgsPut
open Go.RowKit Go.Proofs.YtncanijjnhkgbaaGreatDoorW.PrintWords Go.Proofs.YtncanijjnhkgbaaGreatDoorW.PrintLast Go.Proofs.YtncanijjnhkgbaaGreatDoorW.PrintMore
theorem strOf_inj {l l' : List Int} (h : IsB l) (h' : IsB l') (he : (strOfNums l).toList = (strOfNums l').toList) : l = l' := by
 rw [Lib.strOfNums_toList, Lib.strOfNums_toList] at he
 unfold Lib.bytesOf at he
 have hl : l.length = l'.length := by simpa using congrArg List.length he
 apply List.ext_getElem hl
 intro i h1 h2
 have e := congrArg (fun q : List UInt8 => (q[i]?).map UInt8.toNat) he
 have b1 := h _ (List.getElem_mem h1)
 have b2 := h' _ (List.getElem_mem h2)
 simp [List.getElem?_eq_getElem h1, List.getElem?_eq_getElem h2] at e
 omega
end Go.Proofs.YtncanijjnhkgbaaGreatDoor.PMsgsPut
namespace Go.Proofs.YtncanijjnhkgbaaGreatDoor.PMsgsPut
open Go.RowKit Go.Proofs.YtncanijjnhkgbaaGreatDoorW.PrintWords Go.Proofs.YtncanijjnhkgbaaGreatDoorW.PrintLast Go.Proofs.YtncanijjnhkgbaaGreatDoorW.PrintMore
theorem ba_nil {s : ByteArray} (h : s.size = 0) : s = ⟨#[]⟩ := by
 obtain ⟨d⟩ := s
 have : d = #[] := Array.eq_empty_of_size_eq_zero h
 rw [this]
theorem princB_eq {r : ByteArray} {l : List ByteArray} (h : princB r l = true) : r = ⟨#[]⟩ ∧ l = [] := by
 unfold princB at h
 rw [Bool.and_eq_true, decide_eq_true_eq, decide_eq_true_eq] at h
 exact ⟨ba_nil h.1, List.eq_nil_of_length_eq_zero h.2⟩
theorem blank_eq {i : Int} {b : List Int} {r : ByteArray} {l : List ByteArray} {sr : ByteArray} {sl : List ByteArray} {e but : Int} (h : blankB i b r l sr sl e but = true) :
  (i = 0 ∨ but = 105) ∧ (b = [] ∨ but = 111) ∧ ((r = ⟨#[]⟩ ∧ l = []) ∨ but = 112) ∧ ((sr = ⟨#[]⟩ ∧ sl = [] ∧ e = 0) ∨ but = 107) := by
 unfold blankB at h
 simp only [Bool.and_eq_true, Bool.or_eq_true, decide_eq_true_eq] at h
 obtain ⟨h1, h2, h3, h4⟩ := h
 refine ⟨h1, h2.imp_left List.eq_nil_of_length_eq_zero, h3.imp_left princB_eq, h4.imp_left fun h => ?_⟩
 exact ⟨(princB_eq h.1).1, (princB_eq h.1).2, h.2⟩
theorem val_ext {v v' : S36} (h0 : v.f0 = v'.f0) (h1 : v.f1 = v'.f1) (h2 : v.f2.f0 = v'.f2.f0) (h3 : v.f2.f1 = v'.f2.f1) (h4 : v.f3.f0.f0 = v'.f3.f0.f0) (h5 : v.f3.f0.f1 = v'.f3.f0.f1) (h6 : v.f3.f1 = v'.f3.f1) : v = v' := by
 obtain ⟨a, b, ⟨c, d⟩, ⟨⟨e, f⟩, g⟩⟩ := v
 obtain ⟨a', b', ⟨c', d'⟩, ⟨⟨e', f'⟩, g'⟩⟩ := v'
 simp only at h0 h1 h2 h3 h4 h5 h6
 subst h0 h1 h2 h3 h4 h5 h6
 rfl
end Go.Proofs.YtncanijjnhkgbaaGreatDoor.PMsgsPut
namespace Go.Proofs.YtncanijjnhkgbaaGreatDoor.PMsgsPut
open Go.RowKit Go.Proofs.YtncanijjnhkgbaaGreatDoorW.PrintWords Go.Proofs.YtncanijjnhkgbaaGreatDoorW.PrintLast Go.Proofs.YtncanijjnhkgbaaGreatDoorW.PrintMore
def msgs_shapeOf.f (a0 : Int) : Option (Int × List Int) := some (shapeO a0)
theorem shapeR (W : World) (base : Nat) (xs : List Int) (cells : Array Value) (g n : Nat) (hc : cells = (encs anyV xs).toArray) (hg : W.heap.size = g) (hn : xs.length = n) (hb : base ≤ g) (hm : n ≤ 9223372036854775807) :
  Kd.R Kd.anyK 20 (W.alloc (.cells cells 20)) base (fun _ => True) (.slice (some ⟨g, 0, none⟩) n n) xs := by
 subst hc hg hn
 exact Kd.R_of_own (own_lit_of W base 20 xs hb hm) (fun _ _ => trivial)
theorem shape1 (w : World) :
  Calls Tryz.prog 8 #[.int .i64 1] w fun e w' => ∃ v1_ : Value, e = .returned (.agg #[.int .u8 106, v1_]) ∧ Kd.R Kd.anyK 20 w' w.heap.size (fun _ => True) v1_ [0, 5, 5, 2, 3] ∧ Below w.heap.size w w' := by
 go_enter Tryz.func8, Tryz.ntmps8
 go_wp2
 refine bodyPost_ret (results_cell_row rfl _ _ w.heap.size 40 #[.int .u8 106, .slice (some ⟨w.heap.size + 1 + 1 + 1, 0, none⟩) 5 5] (0, 0) _ rfl (by repeat (first | exact blk_new _ _ | refine blk_alloc ?_ _)) Tryz.underlying40 rfl (by kernel_rfl)) rfl ?_
 refine ⟨_, rfl, ?_, by repeat (first | exact Below.refl _ _ | apply below_alloc)⟩
 exact shapeR _ w.heap.size [0, 5, 5, 2, 3] _ _ _ (by kernel_rfl) (by simp only [World.alloc, Array.size_push]) rfl (by omega) (by decide)
theorem shape2 (w : World) :
  Calls Tryz.prog 8 #[.int .i64 2] w fun e w' => ∃ v1_ : Value, e = .returned (.agg #[.int .u8 107, v1_]) ∧ Kd.R Kd.anyK 20 w' w.heap.size (fun _ => True) v1_ [5, 6, 3, 4] ∧ Below w.heap.size w w' := by
 go_enter Tryz.func8, Tryz.ntmps8
 go_wp2
 refine bodyPost_ret (results_cell_row rfl _ _ w.heap.size 40 #[.int .u8 107, .slice (some ⟨w.heap.size + 1 + 1 + 1, 0, none⟩) 4 4] (0, 0) _ rfl (by repeat (first | exact blk_new _ _ | refine blk_alloc ?_ _)) Tryz.underlying40 rfl (by kernel_rfl)) rfl ?_
 refine ⟨_, rfl, ?_, by repeat (first | exact Below.refl _ _ | apply below_alloc)⟩
 exact shapeR _ w.heap.size [5, 6, 3, 4] _ _ _ (by kernel_rfl) (by simp only [World.alloc, Array.size_push]) rfl (by omega) (by decide)
theorem shape3 (w : World) :
  Calls Tryz.prog 8 #[.int .i64 3] w fun e w' => ∃ v1_ : Value, e = .returned (.agg #[.int .u8 108, v1_]) ∧ Kd.R Kd.anyK 20 w' w.heap.size (fun _ => True) v1_ [0, 5, 2, 6, 4] ∧ Below w.heap.size w w' := by
 go_enter Tryz.func8, Tryz.ntmps8
 go_wp2
 refine bodyPost_ret (results_cell_row rfl _ _ w.heap.size 40 #[.int .u8 108, .slice (some ⟨w.heap.size + 1 + 1 + 1, 0, none⟩) 5 5] (0, 0) _ rfl (by repeat (first | exact blk_new _ _ | refine blk_alloc ?_ _)) Tryz.underlying40 rfl (by kernel_rfl)) rfl ?_
 refine ⟨_, rfl, ?_, by repeat (first | exact Below.refl _ _ | apply below_alloc)⟩
 exact shapeR _ w.heap.size [0, 5, 2, 6, 4] _ _ _ (by kernel_rfl) (by simp only [World.alloc, Array.size_push]) rfl (by omega) (by decide)
theorem shape4 (w : World) :
  Calls Tryz.prog 8 #[.int .i64 4] w fun e w' => ∃ v1_ : Value, e = .returned (.agg #[.int .u8 109, v1_]) ∧ Kd.R Kd.anyK 20 w' w.heap.size (fun _ => True) v1_ [5, 6, 4] ∧ Below w.heap.size w w' := by
 go_enter Tryz.func8, Tryz.ntmps8
 go_wp2
 refine bodyPost_ret (results_cell_row rfl _ _ w.heap.size 40 #[.int .u8 109, .slice (some ⟨w.heap.size + 1 + 1 + 1, 0, none⟩) 3 3] (0, 0) _ rfl (by repeat (first | exact blk_new _ _ | refine blk_alloc ?_ _)) Tryz.underlying40 rfl (by kernel_rfl)) rfl ?_
 refine ⟨_, rfl, ?_, by repeat (first | exact Below.refl _ _ | apply below_alloc)⟩
 exact shapeR _ w.heap.size [5, 6, 4] _ _ _ (by kernel_rfl) (by simp only [World.alloc, Array.size_push]) rfl (by omega) (by decide)
theorem shape5 (w : World) :
  Calls Tryz.prog 8 #[.int .i64 5] w fun e w' => ∃ v1_ : Value, e = .returned (.agg #[.int .u8 110, v1_]) ∧ Kd.R Kd.anyK 20 w' w.heap.size (fun _ => True) v1_ [1, 6, 4] ∧ Below w.heap.size w w' := by
 go_enter Tryz.func8, Tryz.ntmps8
 go_wp2
 refine bodyPost_ret (results_cell_row rfl _ _ w.heap.size 40 #[.int .u8 110, .slice (some ⟨w.heap.size + 1 + 1 + 1, 0, none⟩) 3 3] (0, 0) _ rfl (by repeat (first | exact blk_new _ _ | refine blk_alloc ?_ _)) Tryz.underlying40 rfl (by kernel_rfl)) rfl ?_
 refine ⟨_, rfl, ?_, by repeat (first | exact Below.refl _ _ | apply below_alloc)⟩
 exact shapeR _ w.heap.size [1, 6, 4] _ _ _ (by kernel_rfl) (by simp only [World.alloc, Array.size_push]) rfl (by omega) (by decide)
theorem shape6 (w : World) :
  Calls Tryz.prog 8 #[.int .i64 6] w fun e w' => ∃ v1_ : Value, e = .returned (.agg #[.int .u8 111, v1_]) ∧ Kd.R Kd.anyK 20 w' w.heap.size (fun _ => True) v1_ [4] ∧ Below w.heap.size w w' := by
 go_enter Tryz.func8, Tryz.ntmps8
 go_wp2
 refine bodyPost_ret (results_cell_row rfl _ _ w.heap.size 40 #[.int .u8 111, .slice (some ⟨w.heap.size + 1 + 1 + 1, 0, none⟩) 1 1] (0, 0) _ rfl (by repeat (first | exact blk_new _ _ | refine blk_alloc ?_ _)) Tryz.underlying40 rfl (by kernel_rfl)) rfl ?_
 refine ⟨_, rfl, ?_, by repeat (first | exact Below.refl _ _ | apply below_alloc)⟩
 exact shapeR _ w.heap.size [4] _ _ _ (by kernel_rfl) (by simp only [World.alloc, Array.size_push]) rfl (by omega) (by decide)
theorem shape7 (w : World) :
  Calls Tryz.prog 8 #[.int .i64 7] w fun e w' => ∃ v1_ : Value, e = .returned (.agg #[.int .u8 126, v1_]) ∧ Kd.R Kd.anyK 20 w' w.heap.size (fun _ => True) v1_ [0, 2] ∧ Below w.heap.size w w' := by
 go_enter Tryz.func8, Tryz.ntmps8
 go_wp2
 refine bodyPost_ret (results_cell_row rfl _ _ w.heap.size 40 #[.int .u8 126, .slice (some ⟨w.heap.size + 1 + 1 + 1, 0, none⟩) 2 2] (0, 0) _ rfl (by repeat (first | exact blk_new _ _ | refine blk_alloc ?_ _)) Tryz.underlying40 rfl (by kernel_rfl)) rfl ?_
 refine ⟨_, rfl, ?_, by repeat (first | exact Below.refl _ _ | apply below_alloc)⟩
 exact shapeR _ w.heap.size [0, 2] _ _ _ (by kernel_rfl) (by simp only [World.alloc, Array.size_push]) rfl (by omega) (by decide)
theorem shape8 (w : World) :
  Calls Tryz.prog 8 #[.int .i64 8] w fun e w' => ∃ v1_ : Value, e = .returned (.agg #[.int .u8 99, v1_]) ∧ Kd.R Kd.anyK 20 w' w.heap.size (fun _ => True) v1_ [4, 5, 2, 2, 2] ∧ Below w.heap.size w w' := by
 go_enter Tryz.func8, Tryz.ntmps8
 go_wp2
 refine bodyPost_ret (results_cell_row rfl _ _ w.heap.size 40 #[.int .u8 99, .slice (some ⟨w.heap.size + 1 + 1 + 1, 0, none⟩) 5 5] (0, 0) _ rfl (by repeat (first | exact blk_new _ _ | refine blk_alloc ?_ _)) Tryz.underlying40 rfl (by kernel_rfl)) rfl ?_
 refine ⟨_, rfl, ?_, by repeat (first | exact Below.refl _ _ | apply below_alloc)⟩
 exact shapeR _ w.heap.size [4, 5, 2, 2, 2] _ _ _ (by kernel_rfl) (by simp only [World.alloc, Array.size_push]) rfl (by omega) (by decide)
theorem shape9 (w : World) :
  Calls Tryz.prog 8 #[.int .i64 9] w fun e w' => ∃ v1_ : Value, e = .returned (.agg #[.int .u8 98, v1_]) ∧ Kd.R Kd.anyK 20 w' w.heap.size (fun _ => True) v1_ [5, 2, 0] ∧ Below w.heap.size w w' := by
 go_enter Tryz.func8, Tryz.ntmps8
 go_wp2
 refine bodyPost_ret (results_cell_row rfl _ _ w.heap.size 40 #[.int .u8 98, .slice (some ⟨w.heap.size + 1 + 1 + 1, 0, none⟩) 3 3] (0, 0) _ rfl (by repeat (first | exact blk_new _ _ | refine blk_alloc ?_ _)) Tryz.underlying40 rfl (by kernel_rfl)) rfl ?_
 refine ⟨_, rfl, ?_, by repeat (first | exact Below.refl _ _ | apply below_alloc)⟩
 exact shapeR _ w.heap.size [5, 2, 0] _ _ _ (by kernel_rfl) (by simp only [World.alloc, Array.size_push]) rfl (by omega) (by decide)
theorem shape10 (w : World) :
  Calls Tryz.prog 8 #[.int .i64 10] w fun e w' => ∃ v1_ : Value, e = .returned (.agg #[.int .u8 121, v1_]) ∧ Kd.R Kd.anyK 20 w' w.heap.size (fun _ => True) v1_ [4, 0, 5, 2, 2, 2] ∧ Below w.heap.size w w' := by
 go_enter Tryz.func8, Tryz.ntmps8
 go_wp2
 refine bodyPost_ret (results_cell_row rfl _ _ w.heap.size 40 #[.int .u8 121, .slice (some ⟨w.heap.size + 1 + 1 + 1, 0, none⟩) 6 6] (0, 0) _ rfl (by repeat (first | exact blk_new _ _ | refine blk_alloc ?_ _)) Tryz.underlying40 rfl (by kernel_rfl)) rfl ?_
 refine ⟨_, rfl, ?_, by repeat (first | exact Below.refl _ _ | apply below_alloc)⟩
 exact shapeR _ w.heap.size [4, 0, 5, 2, 2, 2] _ _ _ (by kernel_rfl) (by simp only [World.alloc, Array.size_push]) rfl (by omega) (by decide)
theorem shape11 (w : World) :
  Calls Tryz.prog 8 #[.int .i64 11] w fun e w' => ∃ v1_ : Value, e = .returned (.agg #[.int .u8 123, v1_]) ∧ Kd.R Kd.anyK 20 w' w.heap.size (fun _ => True) v1_ [2, 0] ∧ Below w.heap.size w w' := by
 go_enter Tryz.func8, Tryz.ntmps8
 go_wp2
 refine bodyPost_ret (results_cell_row rfl _ _ w.heap.size 40 #[.int .u8 123, .slice (some ⟨w.heap.size + 1 + 1 + 1, 0, none⟩) 2 2] (0, 0) _ rfl (by repeat (first | exact blk_new _ _ | refine blk_alloc ?_ _)) Tryz.underlying40 rfl (by kernel_rfl)) rfl ?_
 refine ⟨_, rfl, ?_, by repeat (first | exact Below.refl _ _ | apply below_alloc)⟩
 exact shapeR _ w.heap.size [2, 0] _ _ _ (by kernel_rfl) (by simp only [World.alloc, Array.size_push]) rfl (by omega) (by decide)
theorem shape12 (w : World) :
  Calls Tryz.prog 8 #[.int .i64 12] w fun e w' => ∃ v1_ : Value, e = .returned (.agg #[.int .u8 113, v1_]) ∧ Kd.R Kd.anyK 20 w' w.heap.size (fun _ => True) v1_ [0, 2, 0, 4, 4] ∧ Below w.heap.size w w' := by
 go_enter Tryz.func8, Tryz.ntmps8
 go_wp2
 refine bodyPost_ret (results_cell_row rfl _ _ w.heap.size 40 #[.int .u8 113, .slice (some ⟨w.heap.size + 1 + 1 + 1, 0, none⟩) 5 5] (0, 0) _ rfl (by repeat (first | exact blk_new _ _ | refine blk_alloc ?_ _)) Tryz.underlying40 rfl (by kernel_rfl)) rfl ?_
 refine ⟨_, rfl, ?_, by repeat (first | exact Below.refl _ _ | apply below_alloc)⟩
 exact shapeR _ w.heap.size [0, 2, 0, 4, 4] _ _ _ (by kernel_rfl) (by simp only [World.alloc, Array.size_push]) rfl (by omega) (by decide)
theorem shape13 (w : World) :
  Calls Tryz.prog 8 #[.int .i64 13] w fun e w' => ∃ v1_ : Value, e = .returned (.agg #[.int .u8 114, v1_]) ∧ Kd.R Kd.anyK 20 w' w.heap.size (fun _ => True) v1_ [4, 0] ∧ Below w.heap.size w w' := by
 go_enter Tryz.func8, Tryz.ntmps8
 go_wp2
 refine bodyPost_ret (results_cell_row rfl _ _ w.heap.size 40 #[.int .u8 114, .slice (some ⟨w.heap.size + 1 + 1 + 1, 0, none⟩) 2 2] (0, 0) _ rfl (by repeat (first | exact blk_new _ _ | refine blk_alloc ?_ _)) Tryz.underlying40 rfl (by kernel_rfl)) rfl ?_
 refine ⟨_, rfl, ?_, by repeat (first | exact Below.refl _ _ | apply below_alloc)⟩
 exact shapeR _ w.heap.size [4, 0] _ _ _ (by kernel_rfl) (by simp only [World.alloc, Array.size_push]) rfl (by omega) (by decide)
theorem shape0 (k : Int) (h : (k == 1) = false ∧ (k == 2) = false ∧ (k == 3) = false ∧ (k == 4) = false ∧ (k == 5) = false ∧ (k == 6) = false ∧ (k == 7) = false ∧ (k == 8) = false ∧ (k == 9) = false ∧ (k == 10) = false ∧ (k == 11) = false ∧ (k == 12) = false ∧ (k == 13) = false) (w : World) :
  Calls Tryz.prog 8 #[.int .i64 k] w fun e w' => ∃ v1_ : Value, e = .returned (.agg #[.int .u8 0, v1_]) ∧ Kd.R Kd.anyK 20 w' w.heap.size (fun _ => True) v1_ [] ∧ Below w.heap.size w w' := by
 obtain ⟨h1, h2, h3, h4, h5, h6, h7, h8, h9, h10, h11, h12, h13⟩ := h
 go_enter Tryz.func8, Tryz.ntmps8
 go_wp2
 refine bodyPost_ret (results_cell_row rfl _ _ w.heap.size 40 #[.int .u8 0, .slice none 0 0] (0, 0) _ rfl (by repeat (first | exact blk_new _ _ | refine blk_alloc ?_ _)) Tryz.underlying40 rfl (by kernel_rfl)) rfl ?_
 exact ⟨_, rfl, Kd.R_nil _ _ _ _ _, by repeat (first | exact Below.refl _ _ | apply below_alloc)⟩
theorem msgs_shapeOf.calls (a0 : Int) (r1 : Int) (r2 : List Int) (w : World) (h : msgs_shapeOf.f a0 = some (r1, r2)) :
  Calls Tryz.prog 8 #[.int .i64 a0] w fun e w' => ∃ v1_ : Value, e = .returned (.agg #[.int .u8 r1, v1_]) ∧ Kd.R Kd.anyK 20 w' w.heap.size (fun _ => True) v1_ r2 ∧ Below w.heap.size w w' := by
 unfold msgs_shapeOf.f shapeO at h
 by_cases h1 : a0 = 1
 ·rw [if_pos h1] at h
  obtain ⟨rfl, rfl⟩ := Prod.mk.inj (Option.some.inj h)
  subst h1
  exact shape1 w
 rw [if_neg h1] at h
 by_cases h2 : a0 = 2
 ·rw [if_pos h2] at h
  obtain ⟨rfl, rfl⟩ := Prod.mk.inj (Option.some.inj h)
  subst h2
  exact shape2 w
 rw [if_neg h2] at h
 by_cases h3 : a0 = 3
 ·rw [if_pos h3] at h
  obtain ⟨rfl, rfl⟩ := Prod.mk.inj (Option.some.inj h)
  subst h3
  exact shape3 w
 rw [if_neg h3] at h
 by_cases h4 : a0 = 4
 ·rw [if_pos h4] at h
  obtain ⟨rfl, rfl⟩ := Prod.mk.inj (Option.some.inj h)
  subst h4
  exact shape4 w
 rw [if_neg h4] at h
 by_cases h5 : a0 = 5
 ·rw [if_pos h5] at h
  obtain ⟨rfl, rfl⟩ := Prod.mk.inj (Option.some.inj h)
  subst h5
  exact shape5 w
 rw [if_neg h5] at h
 by_cases h6 : a0 = 6
 ·rw [if_pos h6] at h
  obtain ⟨rfl, rfl⟩ := Prod.mk.inj (Option.some.inj h)
  subst h6
  exact shape6 w
 rw [if_neg h6] at h
 by_cases h7 : a0 = 7
 ·rw [if_pos h7] at h
  obtain ⟨rfl, rfl⟩ := Prod.mk.inj (Option.some.inj h)
  subst h7
  exact shape7 w
 rw [if_neg h7] at h
 by_cases h8 : a0 = 8
 ·rw [if_pos h8] at h
  obtain ⟨rfl, rfl⟩ := Prod.mk.inj (Option.some.inj h)
  subst h8
  exact shape8 w
 rw [if_neg h8] at h
 by_cases h9 : a0 = 9
 ·rw [if_pos h9] at h
  obtain ⟨rfl, rfl⟩ := Prod.mk.inj (Option.some.inj h)
  subst h9
  exact shape9 w
 rw [if_neg h9] at h
 by_cases h10 : a0 = 10
 ·rw [if_pos h10] at h
  obtain ⟨rfl, rfl⟩ := Prod.mk.inj (Option.some.inj h)
  subst h10
  exact shape10 w
 rw [if_neg h10] at h
 by_cases h11 : a0 = 11
 ·rw [if_pos h11] at h
  obtain ⟨rfl, rfl⟩ := Prod.mk.inj (Option.some.inj h)
  subst h11
  exact shape11 w
 rw [if_neg h11] at h
 by_cases h12 : a0 = 12
 ·rw [if_pos h12] at h
  obtain ⟨rfl, rfl⟩ := Prod.mk.inj (Option.some.inj h)
  subst h12
  exact shape12 w
 rw [if_neg h12] at h
 by_cases h13 : a0 = 13
 ·rw [if_pos h13] at h
  obtain ⟨rfl, rfl⟩ := Prod.mk.inj (Option.some.inj h)
  subst h13
  exact shape13 w
 rw [if_neg h13] at h
 obtain ⟨rfl, rfl⟩ := Prod.mk.inj (Option.some.inj h)
 exact shape0 a0 ⟨beq_eq_false_iff_ne.mpr h1, beq_eq_false_iff_ne.mpr h2, beq_eq_false_iff_ne.mpr h3, beq_eq_false_iff_ne.mpr h4, beq_eq_false_iff_ne.mpr h5, beq_eq_false_iff_ne.mpr h6, beq_eq_false_iff_ne.mpr h7, beq_eq_false_iff_ne.mpr h8, beq_eq_false_iff_ne.mpr h9, beq_eq_false_iff_ne.mpr h10, beq_eq_false_iff_ne.mpr h11, beq_eq_false_iff_ne.mpr h12, beq_eq_false_iff_ne.mpr h13⟩ w
end Go.Proofs.YtncanijjnhkgbaaGreatDoor.PMsgsPut
namespace Go.Proofs.YtncanijjnhkgbaaGreatDoor.PMsgsPut
open Go.RowKit Go.Proofs.YtncanijjnhkgbaaGreatDoorW.PrintWords Go.Proofs.YtncanijjnhkgbaaGreatDoorW.PrintLast Go.Proofs.YtncanijjnhkgbaaGreatDoorW.PrintMore
attribute [local go_sem] max2_int min2_int max_two min_two max_three min_three max_four min_four
set_option linter.unusedVariables false
set_option linter.unusedSimpArgs false
noncomputable def msgs_Kind.l0 : Nat → List Int → List Int → Int → Option (Int)
 | 0, _, _, _ => none
 | k + 1, x0, x3, x4 => if x4 ≤ 13 then ((msgs_shapeOf.f x4).bind fun bt322 => (if x3.length < 140737488355328 then (msgs_Kind.l0 k x0 (x3 ++ [bt322.1]) (wrap64 (x4 + 1))) else (none))) else (if 0 < (x0.length : Int) then ((slices_Index_byte_byte.f k x3 (rd x0 0)).bind fun t330 => (some (wrap64 (t330 + 1)))) else (none))
noncomputable def msgs_Kind.f (k : Nat) (l0 : List Int) : Option (Int) := if (l0.length : Int) = 0 then (some 0) else (msgs_Kind.l0 k l0 ([] : List Int) 1)
set_option maxHeartbeats 8000000 in
set_option maxRecDepth 100000 in
theorem msgs_Kind.calls (k : Nat) (A0 : Option Addr) (c0 : Nat) (l0 : List Int) (r : Int) (w : World) (hr0 : Kd.C (Kd.int .u8) w A0 l0.length l0) (hc0 : l0.length ≤ c0) (h : msgs_Kind.f k l0 = some r) :
  Calls Tryz.prog 7 #[.slice A0 l0.length c0] w fun e w' => e = .returned (.int .i64 r) ∧ Below w.heap.size w w' := by
 have hfi_ : ∀ (t_ : Int) (v_ : Value) (W_ : World), (Instr.field 40 (.agg #[.int .u8 t_, v_]) 0).run Tryz.prog W_ = .ok (.int .u8 t_) W_ := fun _ _ _ => by kernel_rfl
 have HR0 := Aside0.mk hr0
 have HC0 := Aside0.mk hc0
 clear hr0 hc0
 have HB := Aside0.mk (Below.refl w.heap.size w)
 have H : (if (l0.length : Int) = 0 then (some 0) else (msgs_Kind.l0 k l0 ([] : List Int) 1)) = some r := h
 clear h
 by_cases c2 : (l0.length : Int) = 0
 ·rw [if_pos c2] at H
  have c2b0 : ((l0.length : Int) == 0) = true := beq_iff_eq.mpr c2
  have c2b1 : ((l0.length : Int) != 0) = false := bne_eq_false_iff_eq.mpr c2
  clear c2
  obtain rfl := Option.some.inj H
  go_enter Tryz.func7, Tryz.ntmps7
  go_wp2
  go_ret
  exact ⟨by first | rfl | (simp [errW_none, errW_some] <;> rfl) | (simp [*, errW_none, errW_some] <;> rfl), by repeat (first | (with_reducible first | exact HB.out | apply below_alloc | apply pw_below_drewN | apply below_drew1) | exact HB.out)⟩
 ·rw [if_neg c2] at H
  have c2b0 : ((l0.length : Int) == 0) = false := beq_eq_false_iff_ne.mpr c2
  have c2b1 : ((l0.length : Int) != 0) = true := bne_iff_ne.mpr c2
  have c2b2 : ¬ (l0 = []) := fun h_ => c2 (by rw [h_]; rfl)
  have H' := Aside0.mk H
  clear H
  go_enter Tryz.func7, Tryz.ntmps7
  go_wp2
  go_loopg [3, 4] k (fun kq v3 v4 w' => ∃ (x3_1 : List Int) (x4_1 : Int), v4 = .int .i64 x4_1 ∧ Aside0 (msgs_Kind.l0 kq l0 x3_1 x4_1 = some r) ∧ Aside0 (kq ≤ k) ∧ Aside0 (Kd.R (Kd.int .u8) 5 w' w.heap.size (fun _ => True) v3 x3_1) ∧ Aside0 (Below w.heap.size w w'))
  case atStart => exact ⟨(([] : List Int)), (1), (by first | rfl | (simp; done) | (simp [*]; done)), H', ⟨Nat.le_refl _⟩, ⟨by first | exact Kd.R_nil _ _ _ _ _ | exact Kd.N_nil _ _ _ _ _ | exact Kd.V_nil _ _ _ _ _ | exact Kd.Q_nil _ _ _ _ _ | exact Kd.S_nil _ _ _ _ _⟩, ⟨by repeat (first | (with_reducible first | exact HB.out | apply below_alloc | apply pw_below_drewN | apply below_drew1) | exact HB.out)⟩⟩
  case round =>
   clear H'
   try clear c2
   try clear c2b0
   try clear c2b1
   try clear c2b2
   try clear p2
   obtain ⟨x3_1, x4_1, rfl, HA, HK1, HO_3, HB⟩ := hrel
   cases gk with
   | zero => exact absurd HA.out (by simp [msgs_Kind.l0])
   | succ k1 =>
    have H := HA.out
    clear HA
    simp only [msgs_Kind.l0] at H
    by_cases c3 : x4_1 ≤ 13
    ·rw [if_pos c3] at H
     have c3b0 : decide (x4_1 ≤ 13) = true := decide_eq_true c3
     clear c3
     replace H := Option.bind_eq_some_iff.mp H
     obtain ⟨⟨t322, t323⟩, A40, H⟩ := H
     replace H : (if x3_1.length < 140737488355328 then (msgs_Kind.l0 k1 l0 (x3_1 ++ [t322]) (wrap64 (x4_1 + 1))) else (none)) = some r := H
     have A4 := Aside0.mk A40
     clear A40
     by_cases c5 : x3_1.length < 140737488355328
     ·rw [if_pos c5] at H
      have LMc5 := Aside0.mk c5
      clear c5
      obtain ⟨y326, hy326⟩ : ∃ y_ : List Int, y_ = (x3_1 ++ [t322]) := ⟨_, rfl⟩
      replace H : (msgs_Kind.l0 k1 l0 y326 (wrap64 (x4_1 + 1))) = some r := by first | (rw [hy326]; with_reducible exact H) | (have H2_ := (Option.bind_some _ _).symm.trans H; rw [hy326]; with_reducible exact H2_) | (have H2_ := (Option.bind_some _ _).symm.trans H; with_reducible exact H2_) | with_reducible exact H | (rw [hy326]; exact H) | exact H
      have Ny326 := Aside0.mk hy326
      clear hy326
      have H' := Aside0.mk H
      clear H
      go_wp2_with (first | ((with_reducible refine gate_callee (f := 8) rfl ?_); refine goesL_ (some 14) rfl rfl Tryz.func8 (by kernel_rfl) rfl #[.int .i64 x4_1] rfl (by (try simp only [List.map_toArray, List.map_cons, List.map_nil]); first | done | rfl | (simp only [List.length_drop, List.length_take]; rfl)) ?_; (with_reducible refine (msgs_shapeOf.calls x4_1 t322 t323 _ A4.out).mono ?_); rintro e w6 ⟨v324, rfl, ho0, hb⟩; refine ⟨_, rfl, ?_⟩; have n0_ := Aside0.mk (Kd.R_below (by (with_reducible repeat (first | apply Kd.R_alloc | apply Kd.R_drewN | apply Kd.R_drew)); exact HO_3.out) hb); have n1_ := Aside0.mk (Kd.R_lower ho0 (below_size (by repeat (first | (with_reducible first | exact HB.out | apply below_alloc | apply pw_below_drewN | apply below_drew1) | exact HB.out)))); have n2_ := Aside0.mk (below_step (by repeat (first | (with_reducible first | exact HB.out | apply below_alloc | apply pw_below_drewN | apply below_drew1) | exact HB.out)) hb); clear HO_3; clear HB; have HO_3 := n0_; have HO325 := n1_; have HB := n2_; clear n0_ n1_ n2_; (try clear hb); (try clear hb2); (try clear hk); (try clear hi); (try clear ho0); obtain ⟨Ax_, cx_, ex_⟩ := Kd.R_slice HO325.out; subst ex_) | ((with_reducible refine gate_builtin (b := .append) (xs := #[.tmp 12, .tmp 16]) rfl ?_); at_builtin; refine Kd.R_append (Kd.int .u8) (w0 := w) w.heap.size rfl (.tmp 12) (.tmp 16) 25 5 (.int .u8 0) 1 rfl Tryz.underlying25 info5 rfl (by decide) (by omega) u3 x3_1 t322 [.int .u8 t322] (fun _ => True) (fun _ => False) rfl rfl ?aP (fun _ hk => hk.elim) ?aF ?aO ?aB ?aS ?aL ?_; (case aP => exact rfl); (case aB => exact (by repeat (first | (with_reducible first | exact HB.out | apply below_alloc | apply pw_below_drewN | apply below_drew1) | exact HB.out))); (case aF => exact (fun _ _ => trivial)); (case aO => exact (by (with_reducible repeat (first | apply Kd.R_alloc | apply Kd.R_drewN | apply Kd.R_drew)); exact HO_3.out)); (case aS => exact (below_size (by repeat (first | (with_reducible first | exact HB.out | apply below_alloc | apply pw_below_drewN | apply below_drew1) | exact HB.out)))); (case aL => have := LMc5.out; omega); intro v327 w7 ho hb hg hat; rw [← Ny326.out] at ho; have n0_ := Aside0.mk (Kd.R_over' (by (with_reducible repeat (first | apply Kd.R_alloc | apply Kd.R_drewN | apply Kd.R_drew)); exact HO325.out) (Kd.R_typed (by (with_reducible repeat (first | apply Kd.R_alloc | apply Kd.R_drewN | apply Kd.R_drew)); exact HO_3.out)) (by decide) hg); have n1_ := Aside0.mk (hb); have n2_ := Aside0.mk (ho); clear HO325; clear HB; clear HO_3; have HO325 := n0_; have HB := n1_; have HO328 := n2_; clear n0_ n1_ n2_; clear ho hb hg hat))
      go_roundg k1
      case measure => have := HK1.out; omega
      case rel => exact ⟨(y326), (wrap64 (x4_1 + 1)), (by first | rfl | (simp; done) | (simp [*]; done)), H', ⟨by have := HK1.out; omega⟩, ⟨by (with_reducible repeat (first | apply Kd.R_alloc | apply Kd.R_drewN | apply Kd.R_drew)); exact HO328.out⟩, ⟨by repeat (first | (with_reducible first | exact HB.out | apply below_alloc | apply pw_below_drewN | apply below_drew1) | exact HB.out)⟩⟩
     ·rw [if_neg c5] at H
      exact absurd H (by simp)
    ·rw [if_neg c3] at H
     have c3b0 : decide (x4_1 ≤ 13) = false := decide_eq_false c3
     clear c3
     by_cases c8 : 0 < (l0.length : Int)
     ·rw [if_pos c8] at H
      have c8b0 : decide (0 < (l0.length : Int)) = true := decide_eq_true c8
      have c8b1 : decide (0 < l0.length) = true := decide_eq_true (by omega)
      clear c8
      replace H := Option.bind_eq_some_iff.mp H
      obtain ⟨t330, A90, H⟩ := H
      replace H : (some (wrap64 (t330 + 1))) = some r := H
      have A9 := Aside0.mk A90
      clear A90
      obtain rfl := Option.some.inj H
      have p329 : 0 ≤ (0 : Int) := (by omega)
      have q329 : 0 < (l0.length : Int) := of_decide_eq_true (by first | (with_reducible assumption) | assumption)
      obtain ⟨ad329, e329, hx329_0⟩ := Kd.at_int HR0.out 0 p329 q329
      cases e329
      have qi329 : (0 < l0.length) = True := eq_true (by omega)
      (try rw [show ((0 : Int)).toNat = 0 from rfl] at hx329_0)
      (try rw [Addr.add_zero'] at hx329_0)
      replace hx329_0 := (HB.out.cell (World.block_lt_of_cell? w _ hx329_0)).trans hx329_0
      replace p329 := eq_true p329
      replace q329 := eq_true q329
      obtain ⟨Ao10, co10, eo10⟩ := Kd.R_slice HO_3.out
      subst eo10
      go_wp2_with (first | ((with_reducible refine gate_callee (f := 16) rfl ?_); refine goesL_ (some 22) rfl rfl Tryz.func16 (by kernel_rfl) rfl #[.slice Ao10 x3_1.length co10, .int .u8 (rd l0 0)] rfl (by (try simp only [List.map_toArray, List.map_cons, List.map_nil]); first | done | rfl | (simp only [List.length_drop, List.length_take]; rfl)) ?_; (with_reducible refine (slices_Index_byte_byte.calls k1 _ _ x3_1 (rd l0 0) t330 _ ?side1 ?side2 A9.out).mono ?_); (case side1 => repeat (first | exact (Kd.R_reads' HO_3.out).2.2 | (with_reducible refine Kd.C_alloc ?_ _) | (with_reducible refine Kd.C_drewN ?_ _) | (with_reducible refine Kd.C_drew ?_))); (case side2 => exact (Kd.R_reads' HO_3.out).2.1); rintro e w' ⟨rfl, ⟨nd, rfl⟩⟩; refine ⟨_, rfl, ?_⟩))
      go_ret
      exact ⟨by first | rfl | (simp [errW_none, errW_some] <;> rfl) | (simp [*, errW_none, errW_some] <;> rfl), by repeat (first | (with_reducible first | exact HB.out | apply below_alloc | apply pw_below_drewN | apply below_drew1) | exact HB.out)⟩
     ·rw [if_neg c8] at H
      exact absurd H (by simp)
noncomputable def warderref18_form.f (a0 : Int) : Option (Int × ByteArray) := if a0 = 1 then (some (106, (⟨#[105, 112, 112, 116, 111]⟩ : ByteArray))) else (if a0 = 2 then (some (107, (⟨#[112, 107, 111, 104]⟩ : ByteArray))) else (if a0 = 3 then (some (108, (⟨#[105, 112, 116, 107, 104]⟩ : ByteArray))) else (if a0 = 4 then (some (109, (⟨#[112, 107, 104]⟩ : ByteArray))) else (if a0 = 5 then (some (110, (⟨#[98, 107, 104]⟩ : ByteArray))) else (if a0 = 6 then (some (111, (⟨#[104]⟩ : ByteArray))) else (if a0 = 7 then (some (126, (⟨#[105, 116]⟩ : ByteArray))) else (if a0 = 8 then (some (99, (⟨#[104, 112, 116, 116, 116]⟩ : ByteArray))) else (if a0 = 9 then (some (98, (⟨#[112, 116, 105]⟩ : ByteArray))) else (if a0 = 10 then (some (121, (⟨#[104, 105, 112, 116, 116, 116]⟩ : ByteArray))) else (if a0 = 11 then (some (123, (⟨#[116, 105]⟩ : ByteArray))) else (if a0 = 12 then (some (113, (⟨#[105, 116, 105, 104, 104]⟩ : ByteArray))) else (if a0 = 13 then (some (114, (⟨#[104, 105]⟩ : ByteArray))) else (some (0, (⟨#[]⟩ : ByteArray)))))))))))))))
set_option maxHeartbeats 8000000 in
set_option maxRecDepth 100000 in
theorem warderref18_form.calls (a0 : Int) (r1 : Int) (r2 : ByteArray) (w : World) (h : warderref18_form.f a0 = some (r1, r2)) :
  Calls Tryz.prog 11 #[.int .i64 a0] w fun e w' => e = .returned (.tuple #[.int .u8 r1, .string r2]) ∧ Drawn0 w w' := by
 have H : (if a0 = 1 then (some (106, (⟨#[105, 112, 112, 116, 111]⟩ : ByteArray))) else (if a0 = 2 then (some (107, (⟨#[112, 107, 111, 104]⟩ : ByteArray))) else (if a0 = 3 then (some (108, (⟨#[105, 112, 116, 107, 104]⟩ : ByteArray))) else (if a0 = 4 then (some (109, (⟨#[112, 107, 104]⟩ : ByteArray))) else (if a0 = 5 then (some (110, (⟨#[98, 107, 104]⟩ : ByteArray))) else (if a0 = 6 then (some (111, (⟨#[104]⟩ : ByteArray))) else (if a0 = 7 then (some (126, (⟨#[105, 116]⟩ : ByteArray))) else (if a0 = 8 then (some (99, (⟨#[104, 112, 116, 116, 116]⟩ : ByteArray))) else (if a0 = 9 then (some (98, (⟨#[112, 116, 105]⟩ : ByteArray))) else (if a0 = 10 then (some (121, (⟨#[104, 105, 112, 116, 116, 116]⟩ : ByteArray))) else (if a0 = 11 then (some (123, (⟨#[116, 105]⟩ : ByteArray))) else (if a0 = 12 then (some (113, (⟨#[105, 116, 105, 104, 104]⟩ : ByteArray))) else (if a0 = 13 then (some (114, (⟨#[104, 105]⟩ : ByteArray))) else (some (0, (⟨#[]⟩ : ByteArray)))))))))))))))) = some (r1, r2) := h
 clear h
 by_cases c2 : a0 = 1
 ·rw [if_pos c2] at H
  have c2b0 : (a0 == 1) = true := beq_iff_eq.mpr c2
  have c2b1 : (a0 != 1) = false := bne_eq_false_iff_eq.mpr c2
  clear c2
  simp only [Option.some.injEq, Prod.mk.injEq] at H
  obtain ⟨rfl, rfl⟩ := H
  go_enter Tryz.func11, Tryz.ntmps11
  go_wp2
  go_ret2
  exact ⟨by first | rfl | (simp; done) | (simp [*]; done), by repeat (first | exact Drawn0.refl _ | apply Drawn0.step)⟩
 ·rw [if_neg c2] at H
  have c2b0 : (a0 == 1) = false := beq_eq_false_iff_ne.mpr c2
  have c2b1 : (a0 != 1) = true := bne_iff_ne.mpr c2
  by_cases c3 : a0 = 2
  ·rw [if_pos c3] at H
   have c3b0 : (a0 == 2) = true := beq_iff_eq.mpr c3
   have c3b1 : (a0 != 2) = false := bne_eq_false_iff_eq.mpr c3
   clear c3
   simp only [Option.some.injEq, Prod.mk.injEq] at H
   obtain ⟨rfl, rfl⟩ := H
   go_enter Tryz.func11, Tryz.ntmps11
   go_wp2
   go_ret2
   exact ⟨by first | rfl | (simp; done) | (simp [*]; done), by repeat (first | exact Drawn0.refl _ | apply Drawn0.step)⟩
  ·rw [if_neg c3] at H
   have c3b0 : (a0 == 2) = false := beq_eq_false_iff_ne.mpr c3
   have c3b1 : (a0 != 2) = true := bne_iff_ne.mpr c3
   by_cases c4 : a0 = 3
   ·rw [if_pos c4] at H
    have c4b0 : (a0 == 3) = true := beq_iff_eq.mpr c4
    have c4b1 : (a0 != 3) = false := bne_eq_false_iff_eq.mpr c4
    clear c4
    simp only [Option.some.injEq, Prod.mk.injEq] at H
    obtain ⟨rfl, rfl⟩ := H
    go_enter Tryz.func11, Tryz.ntmps11
    go_wp2
    go_ret2
    exact ⟨by first | rfl | (simp; done) | (simp [*]; done), by repeat (first | exact Drawn0.refl _ | apply Drawn0.step)⟩
   ·rw [if_neg c4] at H
    have c4b0 : (a0 == 3) = false := beq_eq_false_iff_ne.mpr c4
    have c4b1 : (a0 != 3) = true := bne_iff_ne.mpr c4
    by_cases c5 : a0 = 4
    ·rw [if_pos c5] at H
     have c5b0 : (a0 == 4) = true := beq_iff_eq.mpr c5
     have c5b1 : (a0 != 4) = false := bne_eq_false_iff_eq.mpr c5
     clear c5
     simp only [Option.some.injEq, Prod.mk.injEq] at H
     obtain ⟨rfl, rfl⟩ := H
     go_enter Tryz.func11, Tryz.ntmps11
     go_wp2
     go_ret2
     exact ⟨by first | rfl | (simp; done) | (simp [*]; done), by repeat (first | exact Drawn0.refl _ | apply Drawn0.step)⟩
    ·rw [if_neg c5] at H
     have c5b0 : (a0 == 4) = false := beq_eq_false_iff_ne.mpr c5
     have c5b1 : (a0 != 4) = true := bne_iff_ne.mpr c5
     by_cases c6 : a0 = 5
     ·rw [if_pos c6] at H
      have c6b0 : (a0 == 5) = true := beq_iff_eq.mpr c6
      have c6b1 : (a0 != 5) = false := bne_eq_false_iff_eq.mpr c6
      clear c6
      simp only [Option.some.injEq, Prod.mk.injEq] at H
      obtain ⟨rfl, rfl⟩ := H
      go_enter Tryz.func11, Tryz.ntmps11
      go_wp2
      go_ret2
      exact ⟨by first | rfl | (simp; done) | (simp [*]; done), by repeat (first | exact Drawn0.refl _ | apply Drawn0.step)⟩
     ·rw [if_neg c6] at H
      have c6b0 : (a0 == 5) = false := beq_eq_false_iff_ne.mpr c6
      have c6b1 : (a0 != 5) = true := bne_iff_ne.mpr c6
      by_cases c7 : a0 = 6
      ·rw [if_pos c7] at H
       have c7b0 : (a0 == 6) = true := beq_iff_eq.mpr c7
       have c7b1 : (a0 != 6) = false := bne_eq_false_iff_eq.mpr c7
       clear c7
       simp only [Option.some.injEq, Prod.mk.injEq] at H
       obtain ⟨rfl, rfl⟩ := H
       go_enter Tryz.func11, Tryz.ntmps11
       go_wp2
       go_ret2
       exact ⟨by first | rfl | (simp; done) | (simp [*]; done), by repeat (first | exact Drawn0.refl _ | apply Drawn0.step)⟩
      ·rw [if_neg c7] at H
       have c7b0 : (a0 == 6) = false := beq_eq_false_iff_ne.mpr c7
       have c7b1 : (a0 != 6) = true := bne_iff_ne.mpr c7
       by_cases c8 : a0 = 7
       ·rw [if_pos c8] at H
        have c8b0 : (a0 == 7) = true := beq_iff_eq.mpr c8
        have c8b1 : (a0 != 7) = false := bne_eq_false_iff_eq.mpr c8
        clear c8
        simp only [Option.some.injEq, Prod.mk.injEq] at H
        obtain ⟨rfl, rfl⟩ := H
        go_enter Tryz.func11, Tryz.ntmps11
        go_wp2
        go_ret2
        exact ⟨by first | rfl | (simp; done) | (simp [*]; done), by repeat (first | exact Drawn0.refl _ | apply Drawn0.step)⟩
       ·rw [if_neg c8] at H
        have c8b0 : (a0 == 7) = false := beq_eq_false_iff_ne.mpr c8
        have c8b1 : (a0 != 7) = true := bne_iff_ne.mpr c8
        by_cases c9 : a0 = 8
        ·rw [if_pos c9] at H
         have c9b0 : (a0 == 8) = true := beq_iff_eq.mpr c9
         have c9b1 : (a0 != 8) = false := bne_eq_false_iff_eq.mpr c9
         clear c9
         simp only [Option.some.injEq, Prod.mk.injEq] at H
         obtain ⟨rfl, rfl⟩ := H
         go_enter Tryz.func11, Tryz.ntmps11
         go_wp2
         go_ret2
         exact ⟨by first | rfl | (simp; done) | (simp [*]; done), by repeat (first | exact Drawn0.refl _ | apply Drawn0.step)⟩
        ·rw [if_neg c9] at H
         have c9b0 : (a0 == 8) = false := beq_eq_false_iff_ne.mpr c9
         have c9b1 : (a0 != 8) = true := bne_iff_ne.mpr c9
         by_cases c10 : a0 = 9
         ·rw [if_pos c10] at H
          have c10b0 : (a0 == 9) = true := beq_iff_eq.mpr c10
          have c10b1 : (a0 != 9) = false := bne_eq_false_iff_eq.mpr c10
          clear c10
          simp only [Option.some.injEq, Prod.mk.injEq] at H
          obtain ⟨rfl, rfl⟩ := H
          go_enter Tryz.func11, Tryz.ntmps11
          go_wp2
          go_ret2
          exact ⟨by first | rfl | (simp; done) | (simp [*]; done), by repeat (first | exact Drawn0.refl _ | apply Drawn0.step)⟩
         ·rw [if_neg c10] at H
          have c10b0 : (a0 == 9) = false := beq_eq_false_iff_ne.mpr c10
          have c10b1 : (a0 != 9) = true := bne_iff_ne.mpr c10
          by_cases c11 : a0 = 10
          ·rw [if_pos c11] at H
           have c11b0 : (a0 == 10) = true := beq_iff_eq.mpr c11
           have c11b1 : (a0 != 10) = false := bne_eq_false_iff_eq.mpr c11
           clear c11
           simp only [Option.some.injEq, Prod.mk.injEq] at H
           obtain ⟨rfl, rfl⟩ := H
           go_enter Tryz.func11, Tryz.ntmps11
           go_wp2
           go_ret2
           exact ⟨by first | rfl | (simp; done) | (simp [*]; done), by repeat (first | exact Drawn0.refl _ | apply Drawn0.step)⟩
          ·rw [if_neg c11] at H
           have c11b0 : (a0 == 10) = false := beq_eq_false_iff_ne.mpr c11
           have c11b1 : (a0 != 10) = true := bne_iff_ne.mpr c11
           by_cases c12 : a0 = 11
           ·rw [if_pos c12] at H
            have c12b0 : (a0 == 11) = true := beq_iff_eq.mpr c12
            have c12b1 : (a0 != 11) = false := bne_eq_false_iff_eq.mpr c12
            clear c12
            simp only [Option.some.injEq, Prod.mk.injEq] at H
            obtain ⟨rfl, rfl⟩ := H
            go_enter Tryz.func11, Tryz.ntmps11
            go_wp2
            go_ret2
            exact ⟨by first | rfl | (simp; done) | (simp [*]; done), by repeat (first | exact Drawn0.refl _ | apply Drawn0.step)⟩
           ·rw [if_neg c12] at H
            have c12b0 : (a0 == 11) = false := beq_eq_false_iff_ne.mpr c12
            have c12b1 : (a0 != 11) = true := bne_iff_ne.mpr c12
            by_cases c13 : a0 = 12
            ·rw [if_pos c13] at H
             have c13b0 : (a0 == 12) = true := beq_iff_eq.mpr c13
             have c13b1 : (a0 != 12) = false := bne_eq_false_iff_eq.mpr c13
             clear c13
             simp only [Option.some.injEq, Prod.mk.injEq] at H
             obtain ⟨rfl, rfl⟩ := H
             go_enter Tryz.func11, Tryz.ntmps11
             go_wp2
             go_ret2
             exact ⟨by first | rfl | (simp; done) | (simp [*]; done), by repeat (first | exact Drawn0.refl _ | apply Drawn0.step)⟩
            ·rw [if_neg c13] at H
             have c13b0 : (a0 == 12) = false := beq_eq_false_iff_ne.mpr c13
             have c13b1 : (a0 != 12) = true := bne_iff_ne.mpr c13
             by_cases c14 : a0 = 13
             ·rw [if_pos c14] at H
              have c14b0 : (a0 == 13) = true := beq_iff_eq.mpr c14
              have c14b1 : (a0 != 13) = false := bne_eq_false_iff_eq.mpr c14
              clear c14
              simp only [Option.some.injEq, Prod.mk.injEq] at H
              obtain ⟨rfl, rfl⟩ := H
              go_enter Tryz.func11, Tryz.ntmps11
              go_wp2
              go_ret2
              exact ⟨by first | rfl | (simp; done) | (simp [*]; done), by repeat (first | exact Drawn0.refl _ | apply Drawn0.step)⟩
             ·rw [if_neg c14] at H
              have c14b0 : (a0 == 13) = false := beq_eq_false_iff_ne.mpr c14
              have c14b1 : (a0 != 13) = true := bne_iff_ne.mpr c14
              simp only [Option.some.injEq, Prod.mk.injEq] at H
              obtain ⟨rfl, rfl⟩ := H
              go_enter Tryz.func11, Tryz.ntmps11
              go_wp2
              go_ret2
              exact ⟨by first | rfl | (simp; done) | (simp [*]; done), by repeat (first | exact Drawn0.refl _ | apply Drawn0.step)⟩
mutual
noncomputable def warderref09_AlikePrinc.j0 : Nat → Bool → ByteArray → List ByteArray → ByteArray → List ByteArray → Option (Bool)
 | 0, _, _, _, _, _ => none
 | k + 1, x19, x344000, x344001, x345000, x345001 => if x19 = true then (some false) else (warderref09_AlikePrinc.l0 k 0 x344000 x344001 x345000 x345001)
noncomputable def warderref09_AlikePrinc.l0 : Nat → Int → ByteArray → List ByteArray → ByteArray → List ByteArray → Option (Bool)
 | 0, _, _, _, _, _ => none
 | k + 1, x5, x344000, x344001, x345000, x345001 => if x5 < (x344001.length : Int) then (if 0 ≤ x5 then (if x5 < (x345001.length : Int) then (if (rdOf ByteArray.empty x344001 x5).toList = (rdOf ByteArray.empty x345001 x5).toList then (warderref09_AlikePrinc.l0 k (wrap64 (x5 + 1)) x344000 x344001 x345000 x345001) else (some false)) else (none)) else (none)) else (some true)
end
noncomputable def warderref09_AlikePrinc.f (k : Nat) (a0_0 : ByteArray) (l0_1 : List ByteArray) (a1_0 : ByteArray) (l1_1 : List ByteArray) : Option (Bool) := if a0_0.toList = a1_0.toList then (warderref09_AlikePrinc.j0 k ((l0_1.length : Int) != (l1_1.length : Int)) a0_0 l0_1 a1_0 l1_1) else (warderref09_AlikePrinc.j0 k true a0_0 l0_1 a1_0 l1_1)
set_option maxHeartbeats 8000000 in
set_option maxRecDepth 100000 in
theorem warderref09_AlikePrinc.calls (k : Nat) (a0_0 : ByteArray) (A0_1 : Option Addr) (c0_1 : Nat) (l0_1 : List ByteArray) (a1_0 : ByteArray) (A1_1 : Option Addr) (c1_1 : Nat) (l1_1 : List ByteArray) (r : Bool) (w : World) (hr0_1 : Kd.C Kd.string w A0_1 l0_1.length l0_1) (hc0_1 : l0_1.length ≤ c0_1) (hr1_1 : Kd.C Kd.string w A1_1 l1_1.length l1_1) (hc1_1 : l1_1.length ≤ c1_1) (h : warderref09_AlikePrinc.f k a0_0 l0_1 a1_0 l1_1 = some r) :
  Calls Tryz.prog 58 #[.agg #[.string a0_0, .slice A0_1 l0_1.length c0_1], .agg #[.string a1_0, .slice A1_1 l1_1.length c1_1]] w fun e w' => e = .returned (.bool r) ∧ Below w.heap.size w w' := by
 have hu32 := Tryz.underlying32
 have HR0_1 := Aside0.mk hr0_1
 have HC0_1 := Aside0.mk hc0_1
 clear hr0_1 hc0_1
 have HR1_1 := Aside0.mk hr1_1
 have HC1_1 := Aside0.mk hc1_1
 clear hr1_1 hc1_1
 have HB := Aside0.mk (Below.refl w.heap.size w)
 have H : (if a0_0.toList = a1_0.toList then (warderref09_AlikePrinc.j0 k ((l0_1.length : Int) != (l1_1.length : Int)) a0_0 l0_1 a1_0 l1_1) else (warderref09_AlikePrinc.j0 k true a0_0 l0_1 a1_0 l1_1)) = some r := h
 clear h
 have HC3 := Aside0.mk H
 clear H
 go_enter Tryz.func58, Tryz.ntmps58
 go_upto_region 1 with (first | ((with_reducible refine gate_dst (N := 2) rfl ?_); (try (refine gate_guard (by rfl) ?_; dsimp only)); refine box_event ?hg (N := 2) ?hd (cs := #[.string a0_0, .slice A0_1 l0_1.length c0_1]) (t := 32) ?hr ?_; (case hd => rfl); (case hg => rfl); (case hr => first | (go_simp; done) | (go_simp; rfl)); intro gb343 hg w4 hbox hb; have n0_ := Aside0.mk (below_step (by repeat (first | (with_reducible first | exact HB.out | apply below_alloc | apply pw_below_drewN | apply below_drew1) | exact HB.out)) hb); have n1_ := Aside0.mk (hbox); have n2_ := Aside0.mk ((by rw [hg]; exact (below_size (by repeat (first | (with_reducible first | exact HB.out | apply below_alloc | apply pw_below_drewN | apply below_drew1) | exact HB.out))) : w.heap.size ≤ gb343)); have n3_ := Aside0.mk ((by rw [hg]; exact (below_size (by repeat (first | (with_reducible first | exact HB.out | apply below_alloc | apply pw_below_drewN | apply below_drew1) | exact HB.out))) : w.heap.size ≤ gb343)); clear HB; have HB := n0_; have BK343 := n1_; have GW343 := n2_; have GE343 := n3_; clear n0_ n1_ n2_ n3_; clear hb hbox hg) | ((with_reducible refine gate_dst (N := 3) rfl ?_); (try (refine gate_guard (by rfl) ?_; dsimp only)); refine box_event ?hg (N := 3) ?hd (cs := #[.string a1_0, .slice A1_1 l1_1.length c1_1]) (t := 32) ?hr ?_; (case hd => rfl); (case hg => rfl); (case hr => first | (go_simp; done) | (go_simp; rfl)); intro gb344 hg w5 hbox hb; have n0_ := Aside0.mk (blk_below (g := gb343) (o := .cells #[.string a0_0, .slice A0_1 l0_1.length c0_1] 32 (0, 0)) (by (with_reducible repeat (first | refine blk_drewN ?_ _ | refine blk_drew ?_ | refine blk_alloc ?_ _)); exact BK343.out) hb); have n1_ := Aside0.mk (below_step (by repeat (first | (with_reducible first | exact HB.out | apply below_alloc | apply pw_below_drewN | apply below_drew1 | refine below_set ?_ GE343.out) | exact HB.out)) hb); have n2_ := Aside0.mk (hbox); have n3_ := Aside0.mk ((by rw [hg]; exact (below_size (by repeat (first | (with_reducible first | exact HB.out | apply below_alloc | apply pw_below_drewN | apply below_drew1 | refine below_set ?_ GE343.out) | exact HB.out))) : w.heap.size ≤ gb344)); have n4_ := Aside0.mk ((by rw [hg]; exact (below_size (by repeat (first | (with_reducible first | exact HB.out | apply below_alloc | apply pw_below_drewN | apply below_drew1 | refine below_set ?_ GE343.out) | exact HB.out))) : w.heap.size ≤ gb344)); have n5_ := Aside0.mk ((by rw [hg]; exact Nat.ne_of_lt (blk_lt (g := gb343) (o := .cells #[.string a0_0, .slice A0_1 l0_1.length c0_1] 32 (0, 0)) (by (with_reducible repeat (first | refine blk_drewN ?_ _ | refine blk_drew ?_ | refine blk_alloc ?_ _)); exact BK343.out)) : gb343 ≠ gb344)); have n6_ := Aside0.mk ((by rw [hg]; exact Nat.ne_of_gt (blk_lt (g := gb343) (o := .cells #[.string a0_0, .slice A0_1 l0_1.length c0_1] 32 (0, 0)) (by (with_reducible repeat (first | refine blk_drewN ?_ _ | refine blk_drew ?_ | refine blk_alloc ?_ _)); exact BK343.out)) : gb344 ≠ gb343)); clear BK343; clear HB; have BK343 := n0_; have HB := n1_; have BK344 := n2_; have GW344 := n3_; have GE344 := n4_; have NB343_344 := n5_; have NB344_343 := n6_; clear n0_ n1_ n2_ n3_ n4_ n5_ n6_; clear hb hbox hg))
 repeat (go_quiet (first | ((with_reducible refine gate_dst (N := 2) rfl ?_); (try (refine gate_guard (by rfl) ?_; dsimp only)); refine box_event ?hg (N := 2) ?hd (cs := #[.string a0_0, .slice A0_1 l0_1.length c0_1]) (t := 32) ?hr ?_; (case hd => rfl); (case hg => rfl); (case hr => first | (go_simp; done) | (go_simp; rfl)); intro gb343 hg w4 hbox hb; have n0_ := Aside0.mk (below_step (by repeat (first | (with_reducible first | exact HB.out | apply below_alloc | apply pw_below_drewN | apply below_drew1) | exact HB.out)) hb); have n1_ := Aside0.mk (hbox); have n2_ := Aside0.mk ((by rw [hg]; exact (below_size (by repeat (first | (with_reducible first | exact HB.out | apply below_alloc | apply pw_below_drewN | apply below_drew1) | exact HB.out))) : w.heap.size ≤ gb343)); have n3_ := Aside0.mk ((by rw [hg]; exact (below_size (by repeat (first | (with_reducible first | exact HB.out | apply below_alloc | apply pw_below_drewN | apply below_drew1) | exact HB.out))) : w.heap.size ≤ gb343)); clear HB; have HB := n0_; have BK343 := n1_; have GW343 := n2_; have GE343 := n3_; clear n0_ n1_ n2_ n3_; clear hb hbox hg) | ((with_reducible refine gate_dst (N := 3) rfl ?_); (try (refine gate_guard (by rfl) ?_; dsimp only)); refine box_event ?hg (N := 3) ?hd (cs := #[.string a1_0, .slice A1_1 l1_1.length c1_1]) (t := 32) ?hr ?_; (case hd => rfl); (case hg => rfl); (case hr => first | (go_simp; done) | (go_simp; rfl)); intro gb344 hg w5 hbox hb; have n0_ := Aside0.mk (blk_below (g := gb343) (o := .cells #[.string a0_0, .slice A0_1 l0_1.length c0_1] 32 (0, 0)) (by (with_reducible repeat (first | refine blk_drewN ?_ _ | refine blk_drew ?_ | refine blk_alloc ?_ _)); exact BK343.out) hb); have n1_ := Aside0.mk (below_step (by repeat (first | (with_reducible first | exact HB.out | apply below_alloc | apply pw_below_drewN | apply below_drew1 | refine below_set ?_ GE343.out) | exact HB.out)) hb); have n2_ := Aside0.mk (hbox); have n3_ := Aside0.mk ((by rw [hg]; exact (below_size (by repeat (first | (with_reducible first | exact HB.out | apply below_alloc | apply pw_below_drewN | apply below_drew1 | refine below_set ?_ GE343.out) | exact HB.out))) : w.heap.size ≤ gb344)); have n4_ := Aside0.mk ((by rw [hg]; exact (below_size (by repeat (first | (with_reducible first | exact HB.out | apply below_alloc | apply pw_below_drewN | apply below_drew1 | refine below_set ?_ GE343.out) | exact HB.out))) : w.heap.size ≤ gb344)); have n5_ := Aside0.mk ((by rw [hg]; exact Nat.ne_of_lt (blk_lt (g := gb343) (o := .cells #[.string a0_0, .slice A0_1 l0_1.length c0_1] 32 (0, 0)) (by (with_reducible repeat (first | refine blk_drewN ?_ _ | refine blk_drew ?_ | refine blk_alloc ?_ _)); exact BK343.out)) : gb343 ≠ gb344)); have n6_ := Aside0.mk ((by rw [hg]; exact Nat.ne_of_gt (blk_lt (g := gb343) (o := .cells #[.string a0_0, .slice A0_1 l0_1.length c0_1] 32 (0, 0)) (by (with_reducible repeat (first | refine blk_drewN ?_ _ | refine blk_drew ?_ | refine blk_alloc ?_ _)); exact BK343.out)) : gb344 ≠ gb343)); clear BK343; clear HB; have BK343 := n0_; have HB := n1_; have BK344 := n2_; have GW344 := n3_; have GE344 := n4_; have NB343_344 := n5_; have NB344_343 := n6_; clear n0_ n1_ n2_ n3_ n4_ n5_ n6_; clear hb hbox hg)); go_upto_region 1 with (first | ((with_reducible refine gate_dst (N := 2) rfl ?_); (try (refine gate_guard (by rfl) ?_; dsimp only)); refine box_event ?hg (N := 2) ?hd (cs := #[.string a0_0, .slice A0_1 l0_1.length c0_1]) (t := 32) ?hr ?_; (case hd => rfl); (case hg => rfl); (case hr => first | (go_simp; done) | (go_simp; rfl)); intro gb343 hg w4 hbox hb; have n0_ := Aside0.mk (below_step (by repeat (first | (with_reducible first | exact HB.out | apply below_alloc | apply pw_below_drewN | apply below_drew1) | exact HB.out)) hb); have n1_ := Aside0.mk (hbox); have n2_ := Aside0.mk ((by rw [hg]; exact (below_size (by repeat (first | (with_reducible first | exact HB.out | apply below_alloc | apply pw_below_drewN | apply below_drew1) | exact HB.out))) : w.heap.size ≤ gb343)); have n3_ := Aside0.mk ((by rw [hg]; exact (below_size (by repeat (first | (with_reducible first | exact HB.out | apply below_alloc | apply pw_below_drewN | apply below_drew1) | exact HB.out))) : w.heap.size ≤ gb343)); clear HB; have HB := n0_; have BK343 := n1_; have GW343 := n2_; have GE343 := n3_; clear n0_ n1_ n2_ n3_; clear hb hbox hg) | ((with_reducible refine gate_dst (N := 3) rfl ?_); (try (refine gate_guard (by rfl) ?_; dsimp only)); refine box_event ?hg (N := 3) ?hd (cs := #[.string a1_0, .slice A1_1 l1_1.length c1_1]) (t := 32) ?hr ?_; (case hd => rfl); (case hg => rfl); (case hr => first | (go_simp; done) | (go_simp; rfl)); intro gb344 hg w5 hbox hb; have n0_ := Aside0.mk (blk_below (g := gb343) (o := .cells #[.string a0_0, .slice A0_1 l0_1.length c0_1] 32 (0, 0)) (by (with_reducible repeat (first | refine blk_drewN ?_ _ | refine blk_drew ?_ | refine blk_alloc ?_ _)); exact BK343.out) hb); have n1_ := Aside0.mk (below_step (by repeat (first | (with_reducible first | exact HB.out | apply below_alloc | apply pw_below_drewN | apply below_drew1 | refine below_set ?_ GE343.out) | exact HB.out)) hb); have n2_ := Aside0.mk (hbox); have n3_ := Aside0.mk ((by rw [hg]; exact (below_size (by repeat (first | (with_reducible first | exact HB.out | apply below_alloc | apply pw_below_drewN | apply below_drew1 | refine below_set ?_ GE343.out) | exact HB.out))) : w.heap.size ≤ gb344)); have n4_ := Aside0.mk ((by rw [hg]; exact (below_size (by repeat (first | (with_reducible first | exact HB.out | apply below_alloc | apply pw_below_drewN | apply below_drew1 | refine below_set ?_ GE343.out) | exact HB.out))) : w.heap.size ≤ gb344)); have n5_ := Aside0.mk ((by rw [hg]; exact Nat.ne_of_lt (blk_lt (g := gb343) (o := .cells #[.string a0_0, .slice A0_1 l0_1.length c0_1] 32 (0, 0)) (by (with_reducible repeat (first | refine blk_drewN ?_ _ | refine blk_drew ?_ | refine blk_alloc ?_ _)); exact BK343.out)) : gb343 ≠ gb344)); have n6_ := Aside0.mk ((by rw [hg]; exact Nat.ne_of_gt (blk_lt (g := gb343) (o := .cells #[.string a0_0, .slice A0_1 l0_1.length c0_1] 32 (0, 0)) (by (with_reducible repeat (first | refine blk_drewN ?_ _ | refine blk_drew ?_ | refine blk_alloc ?_ _)); exact BK343.out)) : gb344 ≠ gb343)); clear BK343; clear HB; have BK343 := n0_; have HB := n1_; have BK344 := n2_; have GW344 := n3_; have GE344 := n4_; have NB343_344 := n5_; have NB344_343 := n6_; clear n0_ n1_ n2_ n3_ n4_ n5_ n6_; clear hb hbox hg)))
 (try simp only [Act.put, List.setIfInBounds_toArray, List.set_cons_zero, List.set_cons_succ])
 go_cut [19] (fun v19 wc => ∃ (kq : Nat) (x19_2 : Bool), v19 = .bool x19_2 ∧ Aside0 (warderref09_AlikePrinc.j0 kq x19_2 a0_0 l0_1 a1_0 l1_1 = some r) ∧ Aside0 (kq ≤ k) ∧ Aside0 (wc.heap[gb343]? = some (.cells #[.string a0_0, (.slice A0_1 l0_1.length c0_1)] 32 (0, 0))) ∧ Aside0 (wc.heap[gb344]? = some (.cells #[.string a1_0, (.slice A1_1 l1_1.length c1_1)] 32 (0, 0))) ∧ Aside0 (Below w.heap.size w wc))
 case first =>
  have H := HC3.out
  clear HC3
  by_cases c6 : a0_0.toList = a1_0.toList
  ·rw [if_pos c6] at H
   have c6b0 : (a0_0.toList == a1_0.toList) = true := beq_iff_eq.mpr c6
   have c6b1 : (a0_0.toList != a1_0.toList) = false := bne_eq_false_iff_eq.mpr c6
   clear c6
   (first | rw [c6b0] | (simp only [i64_w, i32_w]; rw [c6b0]) | skip)
   have H' := Aside0.mk H
   clear H
   have hnb7 := NB343_344.out
   have hnc7 := NB344_343.out
   have hcz8_0 : w5.cell? ⟨gb343, 0, none⟩ = some (.string a0_0) := (blk_cell BK343.out 0).trans rfl
   have hcz8_1 : w5.cell? ⟨gb343, 1, none⟩ = some (.slice A0_1 l0_1.length c0_1) := (blk_cell BK343.out 1).trans rfl
   have hfz8_0 := blk_frozen BK343.out 0
   have hfz8_1 := blk_frozen BK343.out 1
   have hcz9_0 : w5.cell? ⟨gb344, 0, none⟩ = some (.string a1_0) := (blk_cell BK344.out 0).trans rfl
   have hcz9_1 : w5.cell? ⟨gb344, 1, none⟩ = some (.slice A1_1 l1_1.length c1_1) := (blk_cell BK344.out 1).trans rfl
   have hfz9_0 := blk_frozen BK344.out 0
   have hfz9_1 := blk_frozen BK344.out 1
   go_wp2
   repeat (go_quiet (fail); try go_wp2)
   go_meet
   case rel => exact ⟨_, (((l0_1.length : Int) != (l1_1.length : Int))), (by first | rfl | (simp; done) | (simp [*]; done)), H', ⟨by first | omega | exact Nat.le_refl _⟩, ⟨by (with_reducible repeat (first | refine blk_drewN ?_ _ | refine blk_drew ?_ | refine blk_alloc ?_ _)); exact BK343.out⟩, ⟨by (with_reducible repeat (first | refine blk_drewN ?_ _ | refine blk_drew ?_ | refine blk_alloc ?_ _)); exact BK344.out⟩, ⟨by repeat (first | (with_reducible first | exact HB.out | apply below_alloc | apply pw_below_drewN | apply below_drew1 | refine below_set ?_ GE343.out | refine below_set ?_ GE344.out) | exact HB.out)⟩⟩
  ·rw [if_neg c6] at H
   have c6b0 : (a0_0.toList == a1_0.toList) = false := beq_eq_false_iff_ne.mpr c6
   have c6b1 : (a0_0.toList != a1_0.toList) = true := bne_iff_ne.mpr c6
   (first | rw [c6b0] | (simp only [i64_w, i32_w]; rw [c6b0]) | skip)
   have H' := Aside0.mk H
   clear H
   have hnb10 := NB343_344.out
   have hnc10 := NB344_343.out
   have hcz11_0 : w5.cell? ⟨gb343, 0, none⟩ = some (.string a0_0) := (blk_cell BK343.out 0).trans rfl
   have hcz11_1 : w5.cell? ⟨gb343, 1, none⟩ = some (.slice A0_1 l0_1.length c0_1) := (blk_cell BK343.out 1).trans rfl
   have hfz11_0 := blk_frozen BK343.out 0
   have hfz11_1 := blk_frozen BK343.out 1
   have hcz12_0 : w5.cell? ⟨gb344, 0, none⟩ = some (.string a1_0) := (blk_cell BK344.out 0).trans rfl
   have hcz12_1 : w5.cell? ⟨gb344, 1, none⟩ = some (.slice A1_1 l1_1.length c1_1) := (blk_cell BK344.out 1).trans rfl
   have hfz12_0 := blk_frozen BK344.out 0
   have hfz12_1 := blk_frozen BK344.out 1
   go_wp2
   repeat (go_quiet (fail); try go_wp2)
   go_meet
   case rel => exact ⟨_, (true), (by first | rfl | (simp; done) | (simp [*]; done)), H', ⟨by first | omega | exact Nat.le_refl _⟩, ⟨by (with_reducible repeat (first | refine blk_drewN ?_ _ | refine blk_drew ?_ | refine blk_alloc ?_ _)); exact BK343.out⟩, ⟨by (with_reducible repeat (first | refine blk_drewN ?_ _ | refine blk_drew ?_ | refine blk_alloc ?_ _)); exact BK344.out⟩, ⟨by repeat (first | (with_reducible first | exact HB.out | apply below_alloc | apply pw_below_drewN | apply below_drew1 | refine below_set ?_ GE343.out | refine below_set ?_ GE344.out) | exact HB.out)⟩⟩
 case rest =>
  clear HC3
  try clear c1
  try clear p2
  try clear c5
  try clear c6
  try clear c6b0
  try clear c6b1
  try clear c7
  try clear c10
  try clear hcz11_0
  try clear hcz11_1
  try clear hcz12_0
  try clear hcz12_1
  try clear hcz8_0
  try clear hcz8_1
  try clear hcz9_0
  try clear hcz9_1
  try clear hfz11_0
  try clear hfz11_1
  try clear hfz12_0
  try clear hfz12_1
  try clear hfz8_0
  try clear hfz8_1
  try clear hfz9_0
  try clear hfz9_1
  obtain ⟨kq, x19_2, rfl, HA, HJ2, BK343, BK344, HB⟩ := hcut
  cases kq with
  | zero => exact absurd HA.out (by simp [warderref09_AlikePrinc.j0])
  | succ kj2 =>
   have H := HA.out
   clear HA
   simp only [warderref09_AlikePrinc.j0] at H
   by_cases c13 : x19_2 = true
   ·subst c13
    have H1 : (some false) = some r := by rw [if_pos rfl] at H; exact H
    clear H
    have H := H1
    clear H1
    obtain rfl := Option.some.inj H
    go_wp2
    repeat (go_quiet (fail); try go_wp2)
    go_ret
    exact ⟨by first | rfl | (simp [errW_none, errW_some] <;> rfl) | (simp [*, errW_none, errW_some] <;> rfl), by repeat (first | (with_reducible first | exact HB.out | apply below_alloc | apply pw_below_drewN | apply below_drew1 | refine below_set ?_ GE343.out | refine below_set ?_ GE344.out) | exact HB.out)⟩
   ·replace c13 := Bool.eq_false_iff.mpr c13
    subst c13
    have H1 : (warderref09_AlikePrinc.l0 kj2 0 a0_0 l0_1 a1_0 l1_1) = some r := by rw [if_neg (show ¬ (false = true) by decide)] at H; exact H
    clear H
    have H := H1
    clear H1
    have H' := Aside0.mk H
    clear H
    go_wp2
    repeat (go_quiet (fail); try go_wp2)
    go_loopg [5] kj2 (fun kq v5 w' => ∃ (x5_2 : Int), v5 = .int .i64 x5_2 ∧ Aside0 (warderref09_AlikePrinc.l0 kq x5_2 a0_0 l0_1 a1_0 l1_1 = some r) ∧ Aside0 (kq ≤ kj2) ∧ Aside0 (w'.heap[gb343]? = some (.cells #[.string a0_0, (.slice A0_1 l0_1.length c0_1)] 32 (0, 0))) ∧ Aside0 (w'.heap[gb344]? = some (.cells #[.string a1_0, (.slice A1_1 l1_1.length c1_1)] 32 (0, 0))) ∧ Aside0 (Below w.heap.size w w'))
    case atStart => exact ⟨(0), (by first | rfl | (simp; done) | (simp [*]; done)), H', ⟨Nat.le_refl _⟩, ⟨by (with_reducible repeat (first | refine blk_drewN ?_ _ | refine blk_drew ?_ | refine blk_alloc ?_ _)); exact BK343.out⟩, ⟨by (with_reducible repeat (first | refine blk_drewN ?_ _ | refine blk_drew ?_ | refine blk_alloc ?_ _)); exact BK344.out⟩, ⟨by repeat (first | (with_reducible first | exact HB.out | apply below_alloc | apply pw_below_drewN | apply below_drew1 | refine below_set ?_ GE343.out | refine below_set ?_ GE344.out) | exact HB.out)⟩⟩
    case round =>
     clear H'
     try clear c1
     try clear p2
     try clear c5
     try clear c6
     try clear c6b0
     try clear c6b1
     try clear c7
     try clear c10
     try clear c13
     try clear hcz11_0
     try clear hcz11_1
     try clear hcz12_0
     try clear hcz12_1
     try clear hcz8_0
     try clear hcz8_1
     try clear hcz9_0
     try clear hcz9_1
     try clear hfz11_0
     try clear hfz11_1
     try clear hfz12_0
     try clear hfz12_1
     try clear hfz8_0
     try clear hfz8_1
     try clear hfz9_0
     try clear hfz9_1
     try clear p2
     obtain ⟨x5_2, rfl, HA, HK2, BK343, BK344, HB⟩ := hrel
     cases gk with
     | zero => exact absurd HA.out (by simp [warderref09_AlikePrinc.l0])
     | succ k2 =>
      have H := HA.out
      clear HA
      simp only [warderref09_AlikePrinc.l0] at H
      by_cases c14 : x5_2 < (l0_1.length : Int)
      ·rw [if_pos c14] at H
       have c14b0 : decide (x5_2 < (l0_1.length : Int)) = true := decide_eq_true c14
       clear c14
       by_cases c15 : 0 ≤ x5_2
       ·rw [if_pos c15] at H
        have c15b0 : decide (0 ≤ x5_2) = true := decide_eq_true c15
        clear c15
        by_cases c16 : x5_2 < (l1_1.length : Int)
        ·rw [if_pos c16] at H
         have c16b0 : decide (x5_2 < (l1_1.length : Int)) = true := decide_eq_true c16
         clear c16
         by_cases c17 : (rdOf ByteArray.empty l0_1 x5_2).toList = (rdOf ByteArray.empty l1_1 x5_2).toList
         ·rw [if_pos c17] at H
          have c17b0 : ((rdOf ByteArray.empty l0_1 x5_2).toList == (rdOf ByteArray.empty l1_1 x5_2).toList) = true := beq_iff_eq.mpr c17
          have c17b1 : ((rdOf ByteArray.empty l0_1 x5_2).toList != (rdOf ByteArray.empty l1_1 x5_2).toList) = false := bne_eq_false_iff_eq.mpr c17
          clear c17
          have H' := Aside0.mk H
          clear H
          have hnb18 := NB343_344.out
          have hnc18 := NB344_343.out
          have hcz19_0 : wr.cell? ⟨gb343, 0, none⟩ = some (.string a0_0) := (blk_cell BK343.out 0).trans rfl
          have hcz19_1 : wr.cell? ⟨gb343, 1, none⟩ = some (.slice A0_1 l0_1.length c0_1) := (blk_cell BK343.out 1).trans rfl
          have hfz19_0 := blk_frozen BK343.out 0
          have hfz19_1 := blk_frozen BK343.out 1
          have p345 : 0 ≤ (x5_2 : Int) := of_decide_eq_true (by first | (with_reducible assumption) | assumption)
          have q345 : x5_2 < (l0_1.length : Int) := of_decide_eq_true (by first | (with_reducible assumption) | assumption)
          obtain ⟨ad345, e345, hx345_0⟩ := Kd.at_string HR0_1.out x5_2 p345 q345
          cases e345
          replace hx345_0 := (HB.out.cell (World.block_lt_of_cell? w _ hx345_0)).trans hx345_0
          replace p345 := eq_true p345
          replace q345 := eq_true q345
          have hcz20_0 : wr.cell? ⟨gb344, 0, none⟩ = some (.string a1_0) := (blk_cell BK344.out 0).trans rfl
          have hcz20_1 : wr.cell? ⟨gb344, 1, none⟩ = some (.slice A1_1 l1_1.length c1_1) := (blk_cell BK344.out 1).trans rfl
          have hfz20_0 := blk_frozen BK344.out 0
          have hfz20_1 := blk_frozen BK344.out 1
          have p346 : 0 ≤ (x5_2 : Int) := of_decide_eq_true (by first | (with_reducible assumption) | assumption)
          have q346 : x5_2 < (l1_1.length : Int) := of_decide_eq_true (by first | (with_reducible assumption) | assumption)
          obtain ⟨ad346, e346, hx346_0⟩ := Kd.at_string HR1_1.out x5_2 p346 q346
          cases e346
          replace hx346_0 := (HB.out.cell (World.block_lt_of_cell? w _ hx346_0)).trans hx346_0
          replace p346 := eq_true p346
          replace q346 := eq_true q346
          go_wp2
          repeat (go_quiet (fail); try go_wp2)
          go_roundg k2
          case measure => have := HJ2.out; have := HK2.out; omega
          case rel => exact ⟨(wrap64 (x5_2 + 1)), (by first | rfl | (simp; done) | (simp [*]; done)), H', ⟨by have := HJ2.out; have := HK2.out; omega⟩, ⟨by (with_reducible repeat (first | refine blk_drewN ?_ _ | refine blk_drew ?_ | refine blk_alloc ?_ _)); exact BK343.out⟩, ⟨by (with_reducible repeat (first | refine blk_drewN ?_ _ | refine blk_drew ?_ | refine blk_alloc ?_ _)); exact BK344.out⟩, ⟨by repeat (first | (with_reducible first | exact HB.out | apply below_alloc | apply pw_below_drewN | apply below_drew1 | refine below_set ?_ GE343.out | refine below_set ?_ GE344.out) | exact HB.out)⟩⟩
         ·rw [if_neg c17] at H
          have c17b0 : ((rdOf ByteArray.empty l0_1 x5_2).toList == (rdOf ByteArray.empty l1_1 x5_2).toList) = false := beq_eq_false_iff_ne.mpr c17
          have c17b1 : ((rdOf ByteArray.empty l0_1 x5_2).toList != (rdOf ByteArray.empty l1_1 x5_2).toList) = true := bne_iff_ne.mpr c17
          obtain rfl := Option.some.inj H
          have hnb21 := NB343_344.out
          have hnc21 := NB344_343.out
          have hcz22_0 : wr.cell? ⟨gb343, 0, none⟩ = some (.string a0_0) := (blk_cell BK343.out 0).trans rfl
          have hcz22_1 : wr.cell? ⟨gb343, 1, none⟩ = some (.slice A0_1 l0_1.length c0_1) := (blk_cell BK343.out 1).trans rfl
          have hfz22_0 := blk_frozen BK343.out 0
          have hfz22_1 := blk_frozen BK343.out 1
          have p345 : 0 ≤ (x5_2 : Int) := of_decide_eq_true (by first | (with_reducible assumption) | assumption)
          have q345 : x5_2 < (l0_1.length : Int) := of_decide_eq_true (by first | (with_reducible assumption) | assumption)
          obtain ⟨ad345, e345, hx345_0⟩ := Kd.at_string HR0_1.out x5_2 p345 q345
          cases e345
          replace hx345_0 := (HB.out.cell (World.block_lt_of_cell? w _ hx345_0)).trans hx345_0
          replace p345 := eq_true p345
          replace q345 := eq_true q345
          have hcz23_0 : wr.cell? ⟨gb344, 0, none⟩ = some (.string a1_0) := (blk_cell BK344.out 0).trans rfl
          have hcz23_1 : wr.cell? ⟨gb344, 1, none⟩ = some (.slice A1_1 l1_1.length c1_1) := (blk_cell BK344.out 1).trans rfl
          have hfz23_0 := blk_frozen BK344.out 0
          have hfz23_1 := blk_frozen BK344.out 1
          have p346 : 0 ≤ (x5_2 : Int) := of_decide_eq_true (by first | (with_reducible assumption) | assumption)
          have q346 : x5_2 < (l1_1.length : Int) := of_decide_eq_true (by first | (with_reducible assumption) | assumption)
          obtain ⟨ad346, e346, hx346_0⟩ := Kd.at_string HR1_1.out x5_2 p346 q346
          cases e346
          replace hx346_0 := (HB.out.cell (World.block_lt_of_cell? w _ hx346_0)).trans hx346_0
          replace p346 := eq_true p346
          replace q346 := eq_true q346
          go_wp2
          repeat (go_quiet (fail); try go_wp2)
          go_ret
          exact ⟨by first | rfl | (simp [errW_none, errW_some] <;> rfl) | (simp [*, errW_none, errW_some] <;> rfl), by repeat (first | (with_reducible first | exact HB.out | apply below_alloc | apply pw_below_drewN | apply below_drew1 | refine below_set ?_ GE343.out | refine below_set ?_ GE344.out) | exact HB.out)⟩
        ·rw [if_neg c16] at H
         exact absurd H (by simp)
       ·rw [if_neg c15] at H
        exact absurd H (by simp)
      ·rw [if_neg c14] at H
       have c14b0 : decide (x5_2 < (l0_1.length : Int)) = false := decide_eq_false c14
       clear c14
       obtain rfl := Option.some.inj H
       have hnb24 := NB343_344.out
       have hnc24 := NB344_343.out
       have hcz25_0 : wr.cell? ⟨gb343, 0, none⟩ = some (.string a0_0) := (blk_cell BK343.out 0).trans rfl
       have hcz25_1 : wr.cell? ⟨gb343, 1, none⟩ = some (.slice A0_1 l0_1.length c0_1) := (blk_cell BK343.out 1).trans rfl
       have hfz25_0 := blk_frozen BK343.out 0
       have hfz25_1 := blk_frozen BK343.out 1
       go_wp2
       repeat (go_quiet (fail); try go_wp2)
       go_ret
       exact ⟨by first | rfl | (simp [errW_none, errW_some] <;> rfl) | (simp [*, errW_none, errW_some] <;> rfl), by repeat (first | (with_reducible first | exact HB.out | apply below_alloc | apply pw_below_drewN | apply below_drew1 | refine below_set ?_ GE343.out | refine below_set ?_ GE344.out) | exact HB.out)⟩
noncomputable def warderref17_Same.f (k : Nat) (a0_0 : ByteArray) (l0_1 : List ByteArray) (a0_2 : Int) (a1_0 : ByteArray) (l1_1 : List ByteArray) (a1_2 : Int) : Option (Bool) := if a0_2 = a1_2 then ((warderref09_AlikePrinc.f k a0_0 l0_1 a1_0 l1_1).bind fun t349 => (some t349)) else (some false)
set_option maxHeartbeats 8000000 in
set_option maxRecDepth 100000 in
theorem warderref17_Same.calls (k : Nat) (a0_0 : ByteArray) (A0_1 : Option Addr) (c0_1 : Nat) (l0_1 : List ByteArray) (a0_2 : Int) (a1_0 : ByteArray) (A1_1 : Option Addr) (c1_1 : Nat) (l1_1 : List ByteArray) (a1_2 : Int) (r : Bool) (w : World) (hr0_1 : Kd.C Kd.string w A0_1 l0_1.length l0_1) (hc0_1 : l0_1.length ≤ c0_1) (hr1_1 : Kd.C Kd.string w A1_1 l1_1.length l1_1) (hc1_1 : l1_1.length ≤ c1_1) (h : warderref17_Same.f k a0_0 l0_1 a0_2 a1_0 l1_1 a1_2 = some r) :
  Calls Tryz.prog 59 #[.agg #[.string a0_0, .slice A0_1 l0_1.length c0_1, .int .i64 a0_2], .agg #[.string a1_0, .slice A1_1 l1_1.length c1_1, .int .i64 a1_2]] w fun e w' => e = .returned (.bool r) ∧ Below w.heap.size w w' := by
 have hu34 := Tryz.underlying34
 have hu32 := Tryz.underlying32
 have HR0_1 := Aside0.mk hr0_1
 have HC0_1 := Aside0.mk hc0_1
 clear hr0_1 hc0_1
 have HR1_1 := Aside0.mk hr1_1
 have HC1_1 := Aside0.mk hc1_1
 clear hr1_1 hc1_1
 have HB := Aside0.mk (Below.refl w.heap.size w)
 have H : (if a0_2 = a1_2 then ((warderref09_AlikePrinc.f k a0_0 l0_1 a1_0 l1_1).bind fun t349 => (some t349)) else (some false)) = some r := h
 clear h
 by_cases c3 : a0_2 = a1_2
 ·rw [if_pos c3] at H
  have c3b0 : (a0_2 == a1_2) = true := beq_iff_eq.mpr c3
  have c3b1 : (a0_2 != a1_2) = false := bne_eq_false_iff_eq.mpr c3
  clear c3
  replace H := Option.bind_eq_some_iff.mp H
  obtain ⟨t349, A40, H⟩ := H
  replace H : (some t349) = some r := H
  have A4 := Aside0.mk A40
  clear A40
  obtain rfl := Option.some.inj H
  go_enter Tryz.func59, Tryz.ntmps59
  go_wp2_with (first | ((with_reducible refine gate_dst (N := 2) rfl ?_); refine box_event ?hg (N := 2) ?hd (cs := #[.string a0_0, .slice A0_1 l0_1.length c0_1, .int .i64 a0_2]) (t := 34) ?hr ?_; (case hd => rfl); (case hg => rfl); (case hr => first | (go_simp; done) | (go_simp; rfl)); intro gb347 hg w5 hbox hb; have n0_ := Aside0.mk (below_step (by repeat (first | (with_reducible first | exact HB.out | apply below_alloc | apply pw_below_drewN | apply below_drew1) | exact HB.out)) hb); have n1_ := Aside0.mk (hbox); have n2_ := Aside0.mk ((by rw [hg]; exact (below_size (by repeat (first | (with_reducible first | exact HB.out | apply below_alloc | apply pw_below_drewN | apply below_drew1) | exact HB.out))) : w.heap.size ≤ gb347)); have n3_ := Aside0.mk ((by rw [hg]; exact (below_size (by repeat (first | (with_reducible first | exact HB.out | apply below_alloc | apply pw_below_drewN | apply below_drew1) | exact HB.out))) : w.heap.size ≤ gb347)); clear HB; have HB := n0_; have BK347 := n1_; have GW347 := n2_; have GE347 := n3_; clear n0_ n1_ n2_ n3_; clear hb hbox hg) | ((with_reducible refine gate_dst (N := 3) rfl ?_); refine box_event ?hg (N := 3) ?hd (cs := #[.string a1_0, .slice A1_1 l1_1.length c1_1, .int .i64 a1_2]) (t := 34) ?hr ?_; (case hd => rfl); (case hg => rfl); (case hr => first | (go_simp; done) | (go_simp; rfl)); intro gb348 hg w6 hbox hb; have n0_ := Aside0.mk (blk_below (g := gb347) (o := .cells #[.string a0_0, .slice A0_1 l0_1.length c0_1, .int .i64 a0_2] 34 (0, 0)) (by (with_reducible repeat (first | refine blk_drewN ?_ _ | refine blk_drew ?_ | refine blk_alloc ?_ _)); exact BK347.out) hb); have n1_ := Aside0.mk (below_step (by repeat (first | (with_reducible first | exact HB.out | apply below_alloc | apply pw_below_drewN | apply below_drew1 | refine below_set ?_ GE347.out) | exact HB.out)) hb); have n2_ := Aside0.mk (hbox); have n3_ := Aside0.mk ((by rw [hg]; exact (below_size (by repeat (first | (with_reducible first | exact HB.out | apply below_alloc | apply pw_below_drewN | apply below_drew1 | refine below_set ?_ GE347.out) | exact HB.out))) : w.heap.size ≤ gb348)); have n4_ := Aside0.mk ((by rw [hg]; exact (below_size (by repeat (first | (with_reducible first | exact HB.out | apply below_alloc | apply pw_below_drewN | apply below_drew1 | refine below_set ?_ GE347.out) | exact HB.out))) : w.heap.size ≤ gb348)); have n5_ := Aside0.mk ((by rw [hg]; exact Nat.ne_of_lt (blk_lt (g := gb347) (o := .cells #[.string a0_0, .slice A0_1 l0_1.length c0_1, .int .i64 a0_2] 34 (0, 0)) (by (with_reducible repeat (first | refine blk_drewN ?_ _ | refine blk_drew ?_ | refine blk_alloc ?_ _)); exact BK347.out)) : gb347 ≠ gb348)); have n6_ := Aside0.mk ((by rw [hg]; exact Nat.ne_of_gt (blk_lt (g := gb347) (o := .cells #[.string a0_0, .slice A0_1 l0_1.length c0_1, .int .i64 a0_2] 34 (0, 0)) (by (with_reducible repeat (first | refine blk_drewN ?_ _ | refine blk_drew ?_ | refine blk_alloc ?_ _)); exact BK347.out)) : gb348 ≠ gb347)); clear BK347; clear HB; have BK347 := n0_; have HB := n1_; have BK348 := n2_; have GW348 := n3_; have GE348 := n4_; have NB347_348 := n5_; have NB348_347 := n6_; clear n0_ n1_ n2_ n3_ n4_ n5_ n6_; clear hb hbox hg; have hnb7 := NB347_348.out; have hnc7 := NB348_347.out; have hcz8_0 : w6.cell? ⟨gb347, 0, none⟩ = some (.string a0_0) := (blk_cell BK347.out 0).trans rfl; have hcz8_1 : w6.cell? ⟨gb347, 1, none⟩ = some (.slice A0_1 l0_1.length c0_1) := (blk_cell BK347.out 1).trans rfl; have hcz8_2 : w6.cell? ⟨gb347, 2, none⟩ = some (.int .i64 a0_2) := (blk_cell BK347.out 2).trans rfl; have hfz8_0 := blk_frozen BK347.out 0; have hfz8_1 := blk_frozen BK347.out 1; have hfz8_2 := blk_frozen BK347.out 2; have hcz9_0 : w6.cell? ⟨gb348, 0, none⟩ = some (.string a1_0) := (blk_cell BK348.out 0).trans rfl; have hcz9_1 : w6.cell? ⟨gb348, 1, none⟩ = some (.slice A1_1 l1_1.length c1_1) := (blk_cell BK348.out 1).trans rfl; have hcz9_2 : w6.cell? ⟨gb348, 2, none⟩ = some (.int .i64 a1_2) := (blk_cell BK348.out 2).trans rfl; have hfz9_0 := blk_frozen BK348.out 0; have hfz9_1 := blk_frozen BK348.out 1; have hfz9_2 := blk_frozen BK348.out 2) | (go_at_call 58; (with_reducible refine (warderref09_AlikePrinc.calls k a0_0 _ _ l0_1 a1_0 _ _ l1_1 t349 _ ?side1 ?side2 ?side3 ?side4 A4.out).mono ?_); (case side1 => repeat (first | exact (Kd.C_below HR0_1.out HB.out) | (with_reducible refine Kd.C_alloc ?_ _) | (with_reducible refine Kd.C_drewN ?_ _) | (with_reducible refine Kd.C_drew ?_))); (case side2 => exact HC0_1.out); (case side3 => repeat (first | exact (Kd.C_below HR1_1.out HB.out) | (with_reducible refine Kd.C_alloc ?_ _) | (with_reducible refine Kd.C_drewN ?_ _) | (with_reducible refine Kd.C_drew ?_))); (case side4 => exact HC1_1.out); rintro e w10 ⟨rfl, hb⟩; have n0_ := Aside0.mk (blk_below (g := gb347) (o := .cells #[.string a0_0, .slice A0_1 l0_1.length c0_1, .int .i64 a0_2] 34 (0, 0)) (by (with_reducible repeat (first | refine blk_drewN ?_ _ | refine blk_drew ?_ | refine blk_alloc ?_ _)); exact BK347.out) hb); have n1_ := Aside0.mk (blk_below (g := gb348) (o := .cells #[.string a1_0, .slice A1_1 l1_1.length c1_1, .int .i64 a1_2] 34 (0, 0)) (by (with_reducible repeat (first | refine blk_drewN ?_ _ | refine blk_drew ?_ | refine blk_alloc ?_ _)); exact BK348.out) hb); have n2_ := Aside0.mk (below_step (by repeat (first | (with_reducible first | exact HB.out | apply below_alloc | apply pw_below_drewN | apply below_drew1 | refine below_set ?_ GE347.out | refine below_set ?_ GE348.out) | exact HB.out)) hb); clear BK347; clear BK348; clear HB; have BK347 := n0_; have BK348 := n1_; have HB := n2_; clear n0_ n1_ n2_; (try clear hb); (try clear hb2); (try clear hk); (try clear hi)))
  go_ret
  exact ⟨by first | rfl | (simp [errW_none, errW_some] <;> rfl) | (simp [*, errW_none, errW_some] <;> rfl), by repeat (first | (with_reducible first | exact HB.out | apply below_alloc | apply pw_below_drewN | apply below_drew1 | refine below_set ?_ GE347.out | refine below_set ?_ GE348.out) | exact HB.out)⟩
 ·rw [if_neg c3] at H
  have c3b0 : (a0_2 == a1_2) = false := beq_eq_false_iff_ne.mpr c3
  have c3b1 : (a0_2 != a1_2) = true := bne_iff_ne.mpr c3
  obtain rfl := Option.some.inj H
  go_enter Tryz.func59, Tryz.ntmps59
  go_wp2_with (first | ((with_reducible refine gate_dst (N := 2) rfl ?_); refine box_event ?hg (N := 2) ?hd (cs := #[.string a0_0, .slice A0_1 l0_1.length c0_1, .int .i64 a0_2]) (t := 34) ?hr ?_; (case hd => rfl); (case hg => rfl); (case hr => first | (go_simp; done) | (go_simp; rfl)); intro gb347 hg w11 hbox hb; have n0_ := Aside0.mk (below_step (by repeat (first | (with_reducible first | exact HB.out | apply below_alloc | apply pw_below_drewN | apply below_drew1) | exact HB.out)) hb); have n1_ := Aside0.mk (hbox); have n2_ := Aside0.mk ((by rw [hg]; exact (below_size (by repeat (first | (with_reducible first | exact HB.out | apply below_alloc | apply pw_below_drewN | apply below_drew1) | exact HB.out))) : w.heap.size ≤ gb347)); have n3_ := Aside0.mk ((by rw [hg]; exact (below_size (by repeat (first | (with_reducible first | exact HB.out | apply below_alloc | apply pw_below_drewN | apply below_drew1) | exact HB.out))) : w.heap.size ≤ gb347)); clear HB; have HB := n0_; have BK347 := n1_; have GW347 := n2_; have GE347 := n3_; clear n0_ n1_ n2_ n3_; clear hb hbox hg) | ((with_reducible refine gate_dst (N := 3) rfl ?_); refine box_event ?hg (N := 3) ?hd (cs := #[.string a1_0, .slice A1_1 l1_1.length c1_1, .int .i64 a1_2]) (t := 34) ?hr ?_; (case hd => rfl); (case hg => rfl); (case hr => first | (go_simp; done) | (go_simp; rfl)); intro gb348 hg w12 hbox hb; have n0_ := Aside0.mk (blk_below (g := gb347) (o := .cells #[.string a0_0, .slice A0_1 l0_1.length c0_1, .int .i64 a0_2] 34 (0, 0)) (by (with_reducible repeat (first | refine blk_drewN ?_ _ | refine blk_drew ?_ | refine blk_alloc ?_ _)); exact BK347.out) hb); have n1_ := Aside0.mk (below_step (by repeat (first | (with_reducible first | exact HB.out | apply below_alloc | apply pw_below_drewN | apply below_drew1 | refine below_set ?_ GE347.out) | exact HB.out)) hb); have n2_ := Aside0.mk (hbox); have n3_ := Aside0.mk ((by rw [hg]; exact (below_size (by repeat (first | (with_reducible first | exact HB.out | apply below_alloc | apply pw_below_drewN | apply below_drew1 | refine below_set ?_ GE347.out) | exact HB.out))) : w.heap.size ≤ gb348)); have n4_ := Aside0.mk ((by rw [hg]; exact (below_size (by repeat (first | (with_reducible first | exact HB.out | apply below_alloc | apply pw_below_drewN | apply below_drew1 | refine below_set ?_ GE347.out) | exact HB.out))) : w.heap.size ≤ gb348)); have n5_ := Aside0.mk ((by rw [hg]; exact Nat.ne_of_lt (blk_lt (g := gb347) (o := .cells #[.string a0_0, .slice A0_1 l0_1.length c0_1, .int .i64 a0_2] 34 (0, 0)) (by (with_reducible repeat (first | refine blk_drewN ?_ _ | refine blk_drew ?_ | refine blk_alloc ?_ _)); exact BK347.out)) : gb347 ≠ gb348)); have n6_ := Aside0.mk ((by rw [hg]; exact Nat.ne_of_gt (blk_lt (g := gb347) (o := .cells #[.string a0_0, .slice A0_1 l0_1.length c0_1, .int .i64 a0_2] 34 (0, 0)) (by (with_reducible repeat (first | refine blk_drewN ?_ _ | refine blk_drew ?_ | refine blk_alloc ?_ _)); exact BK347.out)) : gb348 ≠ gb347)); clear BK347; clear HB; have BK347 := n0_; have HB := n1_; have BK348 := n2_; have GW348 := n3_; have GE348 := n4_; have NB347_348 := n5_; have NB348_347 := n6_; clear n0_ n1_ n2_ n3_ n4_ n5_ n6_; clear hb hbox hg; have hnb13 := NB347_348.out; have hnc13 := NB348_347.out; have hcz14_0 : w12.cell? ⟨gb347, 0, none⟩ = some (.string a0_0) := (blk_cell BK347.out 0).trans rfl; have hcz14_1 : w12.cell? ⟨gb347, 1, none⟩ = some (.slice A0_1 l0_1.length c0_1) := (blk_cell BK347.out 1).trans rfl; have hcz14_2 : w12.cell? ⟨gb347, 2, none⟩ = some (.int .i64 a0_2) := (blk_cell BK347.out 2).trans rfl; have hfz14_0 := blk_frozen BK347.out 0; have hfz14_1 := blk_frozen BK347.out 1; have hfz14_2 := blk_frozen BK347.out 2; have hcz15_0 : w12.cell? ⟨gb348, 0, none⟩ = some (.string a1_0) := (blk_cell BK348.out 0).trans rfl; have hcz15_1 : w12.cell? ⟨gb348, 1, none⟩ = some (.slice A1_1 l1_1.length c1_1) := (blk_cell BK348.out 1).trans rfl; have hcz15_2 : w12.cell? ⟨gb348, 2, none⟩ = some (.int .i64 a1_2) := (blk_cell BK348.out 2).trans rfl; have hfz15_0 := blk_frozen BK348.out 0; have hfz15_1 := blk_frozen BK348.out 1; have hfz15_2 := blk_frozen BK348.out 2))
  go_ret
  exact ⟨by first | rfl | (simp [errW_none, errW_some] <;> rfl) | (simp [*, errW_none, errW_some] <;> rfl), by repeat (first | (with_reducible first | exact HB.out | apply below_alloc | apply pw_below_drewN | apply below_drew1 | refine below_set ?_ GE347.out | refine below_set ?_ GE348.out) | exact HB.out)⟩
noncomputable def warderref11_Moment.f (a0 : Int) : Option (Bool) := if a0 ≥ (-631152000) then (some (decide (a0 ≤ 253402300799))) else (some false)
set_option maxHeartbeats 8000000 in
set_option maxRecDepth 100000 in
theorem warderref11_Moment.calls (a0 : Int) (r : Bool) (w : World) (h : warderref11_Moment.f a0 = some r) :
  Calls Tryz.prog 26 #[.int .i64 a0] w fun e w' => e = .returned (.bool r) ∧ Drawn0 w w' := by
 have H : (if a0 ≥ (-631152000) then (some (decide (a0 ≤ 253402300799))) else (some false)) = some r := h
 clear h
 by_cases c2 : a0 ≥ (-631152000)
 ·rw [if_pos c2] at H
  have c2b0 : decide ((-631152000) ≤ a0) = true := decide_eq_true c2
  clear c2
  obtain rfl := Option.some.inj H
  go_enter Tryz.func26, Tryz.ntmps26
  go_wp2
  go_ret
  exact ⟨by first | rfl | (simp; done) | (simp [*]; done), by repeat (first | exact Drawn0.refl _ | apply Drawn0.step)⟩
 ·rw [if_neg c2] at H
  have c2b0 : decide ((-631152000) ≤ a0) = false := decide_eq_false c2
  clear c2
  obtain rfl := Option.some.inj H
  go_enter Tryz.func26, Tryz.ntmps26
  go_wp2
  go_ret
  exact ⟨by first | rfl | (simp; done) | (simp [*]; done), by repeat (first | exact Drawn0.refl _ | apply Drawn0.step)⟩
end Go.Proofs.YtncanijjnhkgbaaGreatDoor.PMsgsPut
namespace Go.Proofs.YtncanijjnhkgbaaGreatDoor.PMsgsPut
open Go.RowKit Go.Proofs.YtncanijjnhkgbaaGreatDoorW.PrintWords Go.Proofs.YtncanijjnhkgbaaGreatDoorW.PrintLast Go.Proofs.YtncanijjnhkgbaaGreatDoorW.PrintMore
theorem ba_ext {s s' : ByteArray} (h : s.toList = s'.toList) : s = s' := by
 rw [Lib.toList_data, Lib.toList_data] at h
 obtain ⟨a⟩ := s
 obtain ⟨b⟩ := s'
 have : a = b := by simpa using h
 rw [this]
theorem rd_str (l : List ByteArray) (i : Nat) (h : i < l.length) : rdOf ByteArray.empty l (i : Int) = l[i] := by
 unfold rdOf
 rw [Int.toNat_natCast, List.getD_eq_getElem?_getD, List.getElem?_eq_getElem h]
 rfl
theorem alike_loop (r r' : ByteArray) (l l' : List ByteArray) (hl : l.length = l'.length) (hm : l.length ≤ 1048576) :
  ∀ (e i : Nat), i + e = l.length → (∀ q (h1 : q < i) (h2 : q < l.length) (h3 : q < l'.length), l[q] = l'[q]) →
   Ev (fun k => warderref09_AlikePrinc.l0 k (i : Int) r l r' l') (decide (l = l'))
 | 0, i, hi, hq => by
  refine Ev.step ?_
  simp only [warderref09_AlikePrinc.l0]
  refine Ev.neg (by omega) (Ev.pure ?_)
  rw [decide_eq_true]
  exact List.ext_getElem hl (fun q h1 h2 => hq q (by omega) h1 h2)
 | e + 1, i, hi, hq => by
  refine Ev.step ?_
  simp only [warderref09_AlikePrinc.l0]
  refine Ev.pos (by omega) (Ev.pos (by omega) (Ev.pos (by omega) ?_))
  rw [rd_str l i (by omega), rd_str l' i (by omega)]
  by_cases h : l[i]'(by omega) = l'[i]'(by omega)
  ·refine Ev.pos (by rw [h]) ?_
   have e2 : wrap64 ((i : Int) + 1) = ((i + 1 : Nat) : Int) := by rw [w64 (by omega) (by omega)]; omega
   rw [e2]
   exact alike_loop r r' l l' hl hm e (i + 1) (by omega) (fun q h1 h2 h3 => by
    by_cases hj : q = i
    ·subst hj; exact h
    ·exact hq q (by omega) h2 h3)
  ·refine Ev.neg (fun he => h (ba_ext he)) (Ev.pure ?_)
   rw [decide_eq_false]
   rintro rfl
   exact h rfl
theorem alike_some (r r' : ByteArray) (l l' : List ByteArray) (hm : l.length ≤ 1048576) :
  Ev (fun k => warderref09_AlikePrinc.f k r l r' l') (decide (r = r' ∧ l = l')) := by
 unfold warderref09_AlikePrinc.f
 by_cases h : r = r'
 ·refine Ev.pos (by rw [h]) ?_
  by_cases hl : l.length = l'.length
  ·have e : ((l.length : Int) != (l'.length : Int)) = false := by rw [hl]; simp
   rw [e]
   refine Ev.step ?_
   simp only [warderref09_AlikePrinc.j0]
   refine Ev.neg (by decide) ?_
   have := alike_loop r r' l l' hl hm l.length 0 (by omega) (fun q h1 => absurd h1 (Nat.not_lt_zero _))
   rw [show decide (r = r' ∧ l = l') = decide (l = l') by simp [h]]
   exact this
  ·have e : ((l.length : Int) != (l'.length : Int)) = true := bne_iff_ne.2 (by omega)
   rw [e]
   refine Ev.step ?_
   simp only [warderref09_AlikePrinc.j0]
   refine Ev.pos trivial (Ev.pure ?_)
   rw [decide_eq_false]
   rintro ⟨_, rfl⟩
   exact hl rfl
 ·refine Ev.neg (fun he => h (ba_ext he)) ?_
  refine Ev.step ?_
  simp only [warderref09_AlikePrinc.j0]
  refine Ev.pos trivial (Ev.pure ?_)
  rw [decide_eq_false]
  exact fun h2 => h h2.1
end Go.Proofs.YtncanijjnhkgbaaGreatDoor.PMsgsPut
namespace Go.Proofs.YtncanijjnhkgbaaGreatDoor.PMsgsPut
open Go.RowKit Go.Proofs.YtncanijjnhkgbaaGreatDoorW.PrintWords Go.Proofs.YtncanijjnhkgbaaGreatDoorW.PrintLast Go.Proofs.YtncanijjnhkgbaaGreatDoorW.PrintMore
def valV (x : S36) (A1 : Option Addr) (c1 : Nat) (A3 : Option Addr) (c3 : Nat) (A5 : Option Addr) (c5 : Nat) : Array Value :=
 #[.int .i64 x.f0, .slice A1 x.f1.length c1, .string x.f2.f0, .slice A3 x.f2.f1.length c3, .string x.f3.f0.f0, .slice A5 x.f3.f0.f1.length c5, .int .i64 x.f3.f1]
structure ValC (w : World) (x : S36) (A1 : Option Addr) (c1 : Nat) (A3 : Option Addr) (c3 : Nat) (A5 : Option Addr) (c5 : Nat) : Prop where
 l1 : x.f1.length ≤ c1
 g1 : (Kd.int .u8).C w A1 x.f1.length x.f1
 l3 : x.f2.f1.length ≤ c3
 g3 : Kd.string.C w A3 x.f2.f1.length x.f2.f1
 l5 : x.f3.f0.f1.length ≤ c5
 g5 : Kd.string.C w A5 x.f3.f0.f1.length x.f3.f0.f1
theorem ValC.below {w w1 : World} {x : S36} {A1 : Option Addr} {c1 : Nat} {A3 : Option Addr} {c3 : Nat} {A5 : Option Addr} {c5 : Nat} (h : ValC w x A1 c1 A3 c3 A5 c5) (hb : Below w.heap.size w w1) : ValC w1 x A1 c1 A3 c3 A5 c5 :=
 ⟨h.l1, Kd.C_below h.g1 hb, h.l3, Kd.C_below h.g3 hb, h.l5, Kd.C_below h.g5 hb⟩
def noP : S32 := ⟨⟨#[]⟩, []⟩
def bareV (c : Int) (x : S36) : S36 :=
 if c = 111 then ⟨0, x.f1, noP, ⟨noP, 0⟩⟩ else if c = 112 then ⟨0, [], x.f2, ⟨noP, 0⟩⟩ else if c = 107 then ⟨0, [], noP, x.f3⟩ else ⟨x.f0, [], noP, ⟨noP, 0⟩⟩
theorem nilB (W : World) : (Kd.int .u8).C W none 0 ([] : List Int) := ⟨rfl, by decide, fun h => absurd h (by decide)⟩
theorem nilS (W : World) : Kd.string.C W none 0 ([] : List ByteArray) := ⟨rfl, by decide, fun h => absurd h (by decide)⟩
theorem bare_calls (c : Int) (x : S36) (A1 : Option Addr) (c1 : Nat) (A3 : Option Addr) (c3 : Nat) (A5 : Option Addr) (c5 : Nat) (w : World) (h : ValC w x A1 c1 A3 c3 A5 c5) :
  Calls Tryz.prog 25 #[.int .u8 c, .agg (valV x A1 c1 A3 c3 A5 c5)] w fun e w' => ∃ B1 d1 B3 d3 B5 d5, e = .returned (.agg (valV (bareV c x) B1 d1 B3 d3 B5 d5)) ∧ ValC w' (bareV c x) B1 d1 B3 d3 B5 d5 ∧ Below w.heap.size w w' := by
 unfold valV bareV
 have PH := Aside0.mk h
 clear h
 by_cases h111 : c = 111
 ·subst h111
  rw [if_pos rfl]
  go_enter Tryz.func25, Tryz.ntmps25
  go_wp2
  exact bodyPost_ret (v := .agg #[.int .i64 0, .slice A1 x.f1.length c1, .string ⟨#[]⟩, .slice none 0 0, .string ⟨#[]⟩, .slice none 0 0, .int .i64 0]) (by simp [results, Tryz.results25, go_sem]) rfl ⟨A1, c1, none, 0, none, 0, rfl, (⟨PH.out.l1, PH.out.g1, Nat.le_refl _, nilS _, Nat.le_refl _, nilS _⟩ : ValC w ⟨0, x.f1, noP, ⟨noP, 0⟩⟩ A1 c1 none 0 none 0).below (below_alloc (below_alloc (Below.refl w.heap.size w) _) _), below_alloc (below_alloc (Below.refl w.heap.size w) _) _⟩
 by_cases h112 : c = 112
 ·subst h112
  rw [if_neg h111, if_pos rfl]
  clear h111
  go_enter Tryz.func25, Tryz.ntmps25
  go_wp2
  exact bodyPost_ret (v := .agg #[.int .i64 0, .slice none 0 0, .string x.f2.f0, .slice A3 x.f2.f1.length c3, .string ⟨#[]⟩, .slice none 0 0, .int .i64 0]) (by simp [results, Tryz.results25, go_sem]) rfl ⟨none, 0, A3, c3, none, 0, rfl, (⟨Nat.le_refl _, nilB _, PH.out.l3, PH.out.g3, Nat.le_refl _, nilS _⟩ : ValC w ⟨0, [], x.f2, ⟨noP, 0⟩⟩ none 0 A3 c3 none 0).below (below_alloc (below_alloc (Below.refl w.heap.size w) _) _), below_alloc (below_alloc (Below.refl w.heap.size w) _) _⟩
 by_cases h107 : c = 107
 ·subst h107
  rw [if_neg h111, if_neg h112, if_pos rfl]
  clear h111 h112
  go_enter Tryz.func25, Tryz.ntmps25
  go_wp2
  exact bodyPost_ret (v := .agg #[.int .i64 0, .slice none 0 0, .string ⟨#[]⟩, .slice none 0 0, .string x.f3.f0.f0, .slice A5 x.f3.f0.f1.length c5, .int .i64 x.f3.f1]) (by simp [results, Tryz.results25, go_sem]) rfl ⟨none, 0, none, 0, A5, c5, rfl, (⟨Nat.le_refl _, nilB _, Nat.le_refl _, nilS _, PH.out.l5, PH.out.g5⟩ : ValC w ⟨0, [], noP, x.f3⟩ none 0 none 0 A5 c5).below (below_alloc (below_alloc (Below.refl w.heap.size w) _) _), below_alloc (below_alloc (Below.refl w.heap.size w) _) _⟩
 rw [if_neg h111, if_neg h112, if_neg h107]
 have e1 : (c == 111) = false := beq_eq_false_iff_ne.2 h111
 have e2 : (c == 112) = false := beq_eq_false_iff_ne.2 h112
 have e3 : (c == 107) = false := beq_eq_false_iff_ne.2 h107
 clear h111 h112 h107
 go_enter Tryz.func25, Tryz.ntmps25
 go_wp2
 exact bodyPost_ret (v := .agg #[.int .i64 x.f0, .slice none 0 0, .string ⟨#[]⟩, .slice none 0 0, .string ⟨#[]⟩, .slice none 0 0, .int .i64 0]) (by simp [results, Tryz.results25, go_sem]) rfl ⟨none, 0, none, 0, none, 0, rfl, (⟨Nat.le_refl _, nilB _, Nat.le_refl _, nilS _, Nat.le_refl _, nilS _⟩ : ValC w ⟨x.f0, [], noP, ⟨noP, 0⟩⟩ none 0 none 0 none 0).below (below_alloc (below_alloc (Below.refl w.heap.size w) _) _), below_alloc (below_alloc (Below.refl w.heap.size w) _) _⟩
open Classical in
theorem same_calls (x y : S36) (A1 : Option Addr) (c1 : Nat) (A3 : Option Addr) (c3 : Nat) (A5 : Option Addr) (c5 : Nat) (B1 : Option Addr) (d1 : Nat) (B3 : Option Addr) (d3 : Nat) (B5 : Option Addr) (d5 : Nat) (w : World) (h : ValC w x A1 c1 A3 c3 A5 c5) (h' : ValC w y B1 d1 B3 d3 B5 d5) (hx : Small x) (hy : IsB y.f1) :
  Calls Tryz.prog 24 #[.agg (valV x A1 c1 A3 c3 A5 c5), .agg (valV y B1 d1 B3 d3 B5 d5)] w fun e w' => e = .returned (.bool (decide (x = y))) ∧ Below w.heap.size w w' := by
 unfold valV
 obtain ⟨k1, p1⟩ := (alike_some x.f2.f0 y.f2.f0 x.f2.f1 y.f2.f1 hx.princ.len).of
 have q2 : Ev (fun k => warderref17_Same.f k x.f3.f0.f0 x.f3.f0.f1 x.f3.f1 y.f3.f0.f0 y.f3.f0.f1 y.f3.f1) (decide (x.f3 = y.f3)) := by
  unfold warderref17_Same.f
  by_cases h4 : x.f3.f1 = y.f3.f1
  ·refine Ev.pos h4 (Ev.bind (alike_some _ _ _ _ hx.server.len) (Ev.pure ?_))
   congr 1
   rw [decide_eq_decide]
   constructor
   ·intro h
    revert h h4
    generalize x.f3 = a
    generalize y.f3 = b
    obtain ⟨⟨a1, a2⟩, a3⟩ := a
    obtain ⟨⟨b1, b2⟩, b3⟩ := b
    rintro h ⟨rfl, rfl⟩
    simp only at h
    rw [h]
   ·intro h
    rw [h]
    exact ⟨rfl, rfl⟩
  ·refine Ev.neg h4 (Ev.pure ?_)
   rw [decide_eq_false]
   exact fun h => h4 (by rw [h])
 obtain ⟨k2, p2⟩ := q2.of
 have F1 := Aside0.mk (fun (W : World) (hb : Below w.heap.size w W) => warderref09_AlikePrinc.calls k1 x.f2.f0 A3 c3 x.f2.f1 y.f2.f0 B3 d3 y.f2.f1 _ W (h.below hb).g3 h.l3 (h'.below hb).g3 h'.l3 p1)
 have F2 := Aside0.mk (fun (W : World) (hb : Below w.heap.size w W) => warderref17_Same.calls k2 x.f3.f0.f0 A5 c5 x.f3.f0.f1 x.f3.f1 y.f3.f0.f0 B5 d5 y.f3.f0.f1 y.f3.f1 _ W (h.below hb).g5 h.l5 (h'.below hb).g5 h'.l5 p2)
 have C1 := Aside0.mk (fun (W : World) (hb : Below w.heap.size w W) => Kd.C_string (P := Tryz.prog) (A := A1) (c := c1) Tryz.underlying25 Tryz.underlying5 Tryz.underlying9 (h.below hb).g1)
 have C2 := Aside0.mk (fun (W : World) (hb : Below w.heap.size w W) => Kd.C_string (P := Tryz.prog) (A := B1) (c := d1) Tryz.underlying25 Tryz.underlying5 Tryz.underlying9 (h'.below hb).g1)
 have hD : decide (x = y) = (decide (x.f2.f0 = y.f2.f0 ∧ x.f2.f1 = y.f2.f1) && (decide (x.f0 = y.f0) && (decide ((strOfNums x.f1).toList = (strOfNums y.f1).toList) && decide (x.f3 = y.f3)))) := by
  rw [Bool.eq_iff_iff]
  simp only [Bool.and_eq_true, decide_eq_true_eq]
  constructor
  ·rintro rfl
   exact ⟨⟨rfl, rfl⟩, rfl, rfl, rfl⟩
  ·rintro ⟨⟨e1, e2⟩, e3, e4, e5⟩
   exact val_ext e3 (strOf_inj hx.isB hy e4) e1 e2 (by rw [e5]) (by rw [e5]) (by rw [e5])
 rw [hD]
 clear hD p1 q2 p2 hx hy h h'
 generalize decide (x.f2.f0 = y.f2.f0 ∧ x.f2.f1 = y.f2.f1) = P at F1 ⊢
 generalize decide (x.f3 = y.f3) = K at F2 ⊢
 cases P with
 | false =>
  rw [Bool.false_and]
  go_enter Tryz.func24, Tryz.ntmps24
  go_wp2_with (go_at_call 58; refine (F1.out _ (below_alloc (below_alloc (Below.refl _ _) _) _)).mono ?_; rintro e w1 ⟨rfl, hb⟩)
  go_ret
  exact ⟨rfl, below_step (below_alloc (below_alloc (Below.refl _ _) _) _) hb⟩
 | true =>
  rw [Bool.true_and]
  by_cases hi : x.f0 = y.f0
  ·have hi' : (x.f0 == y.f0) = true := beq_iff_eq.2 hi
   rw [decide_eq_true hi, Bool.true_and]
   clear hi
   by_cases hs : (strOfNums x.f1).toList = (strOfNums y.f1).toList
   ·have hs' : ((strOfNums x.f1).toList == (strOfNums y.f1).toList) = true := beq_iff_eq.2 hs
    rw [decide_eq_true hs, Bool.true_and]
    clear hs
    go_enter Tryz.func24, Tryz.ntmps24
    go_wp2_with (first | (go_at_call 58; refine (F1.out _ (below_alloc (below_alloc (Below.refl _ _) _) _)).mono ?_; rintro e w1 ⟨rfl, hb⟩; have kx := blk_below (blk_alloc (blk_new w (.cells #[.int .i64 x.f0, .slice A1 x.f1.length c1, .string x.f2.f0, .slice A3 x.f2.f1.length c3, .string x.f3.f0.f0, .slice A5 x.f3.f0.f1.length c5, .int .i64 x.f3.f1] 36)) (.cells #[.int .i64 y.f0, .slice B1 y.f1.length d1, .string y.f2.f0, .slice B3 y.f2.f1.length d3, .string y.f3.f0.f0, .slice B5 y.f3.f0.f1.length d5, .int .i64 y.f3.f1] 36)) hb; have ky := blk_below (blk_new (w.alloc (.cells #[.int .i64 x.f0, .slice A1 x.f1.length c1, .string x.f2.f0, .slice A3 x.f2.f1.length c3, .string x.f3.f0.f0, .slice A5 x.f3.f0.f1.length c5, .int .i64 x.f3.f1] 36)) (.cells #[.int .i64 y.f0, .slice B1 y.f1.length d1, .string y.f2.f0, .slice B3 y.f2.f1.length d3, .string y.f3.f0.f0, .slice B5 y.f3.f0.f1.length d5, .int .i64 y.f3.f1] 36)) hb; rw [World.size_alloc] at ky; have x0 := (blk_cell kx 0).trans rfl; have y0 := (blk_cell ky 0).trans rfl; have x1 := (blk_cell kx 1).trans rfl; have y1 := (blk_cell ky 1).trans rfl; have x4 := (blk_cell kx 4).trans rfl; have y4 := (blk_cell ky 4).trans rfl; have x5 := (blk_cell kx 5).trans rfl; have y5 := (blk_cell ky 5).trans rfl; have x6 := (blk_cell kx 6).trans rfl; have y6 := (blk_cell ky 6).trans rfl; have hB : Below w.heap.size w w1 := below_step (below_alloc (below_alloc (Below.refl w.heap.size w) _) _) hb; have z1 := C1.out w1 hB; have z2 := C2.out w1 hB; have PB := Aside0.mk hB; clear hb kx ky hB) | (go_at_call 59; refine (F2.out _ PB.out).mono ?_; rintro e w2 ⟨rfl, hb2⟩))
    go_ret
    exact ⟨rfl, below_step PB.out hb2⟩
   ·have hs' : ((strOfNums x.f1).toList == (strOfNums y.f1).toList) = false := beq_eq_false_iff_ne.2 hs
    rw [decide_eq_false hs, Bool.false_and]
    clear hs
    go_enter Tryz.func24, Tryz.ntmps24
    go_wp2_with (first | (go_at_call 58; refine (F1.out _ (below_alloc (below_alloc (Below.refl _ _) _) _)).mono ?_; rintro e w1 ⟨rfl, hb⟩; have kx := blk_below (blk_alloc (blk_new w (.cells #[.int .i64 x.f0, .slice A1 x.f1.length c1, .string x.f2.f0, .slice A3 x.f2.f1.length c3, .string x.f3.f0.f0, .slice A5 x.f3.f0.f1.length c5, .int .i64 x.f3.f1] 36)) (.cells #[.int .i64 y.f0, .slice B1 y.f1.length d1, .string y.f2.f0, .slice B3 y.f2.f1.length d3, .string y.f3.f0.f0, .slice B5 y.f3.f0.f1.length d5, .int .i64 y.f3.f1] 36)) hb; have ky := blk_below (blk_new (w.alloc (.cells #[.int .i64 x.f0, .slice A1 x.f1.length c1, .string x.f2.f0, .slice A3 x.f2.f1.length c3, .string x.f3.f0.f0, .slice A5 x.f3.f0.f1.length c5, .int .i64 x.f3.f1] 36)) (.cells #[.int .i64 y.f0, .slice B1 y.f1.length d1, .string y.f2.f0, .slice B3 y.f2.f1.length d3, .string y.f3.f0.f0, .slice B5 y.f3.f0.f1.length d5, .int .i64 y.f3.f1] 36)) hb; rw [World.size_alloc] at ky; have x0 := (blk_cell kx 0).trans rfl; have y0 := (blk_cell ky 0).trans rfl; have x1 := (blk_cell kx 1).trans rfl; have y1 := (blk_cell ky 1).trans rfl; have x4 := (blk_cell kx 4).trans rfl; have y4 := (blk_cell ky 4).trans rfl; have x5 := (blk_cell kx 5).trans rfl; have y5 := (blk_cell ky 5).trans rfl; have x6 := (blk_cell kx 6).trans rfl; have y6 := (blk_cell ky 6).trans rfl; have hB : Below w.heap.size w w1 := below_step (below_alloc (below_alloc (Below.refl w.heap.size w) _) _) hb; have z1 := C1.out w1 hB; have z2 := C2.out w1 hB; have PB := Aside0.mk hB; clear hb kx ky hB))
    go_ret
    exact ⟨rfl, PB.out⟩
  ·have hi' : (x.f0 == y.f0) = false := beq_eq_false_iff_ne.2 hi
   rw [decide_eq_false hi, Bool.false_and]
   clear hi
   go_enter Tryz.func24, Tryz.ntmps24
   go_wp2_with (first | (go_at_call 58; refine (F1.out _ (below_alloc (below_alloc (Below.refl _ _) _) _)).mono ?_; rintro e w1 ⟨rfl, hb⟩; have kx := blk_below (blk_alloc (blk_new w (.cells #[.int .i64 x.f0, .slice A1 x.f1.length c1, .string x.f2.f0, .slice A3 x.f2.f1.length c3, .string x.f3.f0.f0, .slice A5 x.f3.f0.f1.length c5, .int .i64 x.f3.f1] 36)) (.cells #[.int .i64 y.f0, .slice B1 y.f1.length d1, .string y.f2.f0, .slice B3 y.f2.f1.length d3, .string y.f3.f0.f0, .slice B5 y.f3.f0.f1.length d5, .int .i64 y.f3.f1] 36)) hb; have ky := blk_below (blk_new (w.alloc (.cells #[.int .i64 x.f0, .slice A1 x.f1.length c1, .string x.f2.f0, .slice A3 x.f2.f1.length c3, .string x.f3.f0.f0, .slice A5 x.f3.f0.f1.length c5, .int .i64 x.f3.f1] 36)) (.cells #[.int .i64 y.f0, .slice B1 y.f1.length d1, .string y.f2.f0, .slice B3 y.f2.f1.length d3, .string y.f3.f0.f0, .slice B5 y.f3.f0.f1.length d5, .int .i64 y.f3.f1] 36)) hb; rw [World.size_alloc] at ky; have x0 := (blk_cell kx 0).trans rfl; have y0 := (blk_cell ky 0).trans rfl; have x1 := (blk_cell kx 1).trans rfl; have y1 := (blk_cell ky 1).trans rfl; have x4 := (blk_cell kx 4).trans rfl; have y4 := (blk_cell ky 4).trans rfl; have x5 := (blk_cell kx 5).trans rfl; have y5 := (blk_cell ky 5).trans rfl; have x6 := (blk_cell kx 6).trans rfl; have y6 := (blk_cell ky 6).trans rfl; have hB : Below w.heap.size w w1 := below_step (below_alloc (below_alloc (Below.refl w.heap.size w) _) _) hb; have z1 := C1.out w1 hB; have z2 := C2.out w1 hB; have PB := Aside0.mk hB; clear hb kx ky hB))
   go_ret
   exact ⟨rfl, PB.out⟩
end Go.Proofs.YtncanijjnhkgbaaGreatDoor.PMsgsPut
namespace Go.Proofs.YtncanijjnhkgbaaGreatDoor.PMsgsPut
open Go.RowKit Go.Proofs.YtncanijjnhkgbaaGreatDoorW.PrintWords Go.Proofs.YtncanijjnhkgbaaGreatDoorW.PrintLast Go.Proofs.YtncanijjnhkgbaaGreatDoorW.PrintMore
def warderref03_printable.f (_ : Int) : Option (Bool) := none
theorem warderref03_printable.calls (a0 : Int) (r : Bool) (w : World) (h : warderref03_printable.f a0 = some r) :
  Calls Tryz.prog 110 #[.int .u8 a0] w fun e w' => e = .returned (.bool r) ∧ Drawn0 w w' := by
 cases h
def warderref04_rising.f (_ : List (List Int)) : Option (Bool) := none
theorem warderref04_rising.calls (A0 : Option Addr) (c0 : Nat) (l0 : List (List Int)) (r : Bool) (w : World) (_ : Kd.C (Kd.slice 5 (Kd.int .u8)) w A0 l0.length l0) (_ : l0.length ≤ c0) (h : warderref04_rising.f l0 = some r) :
  Calls Tryz.prog 70 #[.slice A0 l0.length c0] w fun e w' => e = .returned (.bool r) ∧ Drawn0 w w' := by
 cases h
end Go.Proofs.YtncanijjnhkgbaaGreatDoor.PMsgsPut
namespace Go.Proofs.YtncanijjnhkgbaaGreatDoor.PMsgsPut
open Go.RowKit Go.Proofs.YtncanijjnhkgbaaGreatDoorW.PrintWords Go.Proofs.YtncanijjnhkgbaaGreatDoorW.PrintLast Go.Proofs.YtncanijjnhkgbaaGreatDoorW.PrintMore
attribute [local go_sem] max2_int min2_int max_two min_two max_three min_three max_four min_four
set_option linter.unusedVariables false
set_option linter.unusedSimpArgs false
mutual
noncomputable def warderref03_Right.j0 : Nat → Int → List Int → Bool → Option (Bool)
 | 0, _, _, _ => none
 | k + 1, x0, x1, x20 => if x20 = true then (some false) else (warderref03_Right.l0 k x0 x1 0)
noncomputable def warderref03_Right.l0 : Nat → Int → List Int → Int → Option (Bool)
 | 0, _, _, _ => none
 | k + 1, x0, x1, x5 => if x5 < (x1.length : Int) then (if 0 ≤ x5 then (if x0 = 22 then (if (rd x1 x5) ≥ 128 then (some false) else (if x0 = 27 then (if (rd x1 x5) < 32 then (some false) else (if (rd x1 x5) > 126 then (some false) else (if x0 = 19 then ((warderref03_printable.f (rd x1 x5)).bind fun t358 => (if t358 = true then (warderref03_Right.l0 k x0 x1 (wrap64 (x5 + 1))) else (some false))) else (warderref03_Right.l0 k x0 x1 (wrap64 (x5 + 1)))))) else (if x0 = 19 then ((warderref03_printable.f (rd x1 x5)).bind fun t359 => (if t359 = true then (warderref03_Right.l0 k x0 x1 (wrap64 (x5 + 1))) else (some false))) else (warderref03_Right.l0 k x0 x1 (wrap64 (x5 + 1)))))) else (if x0 = 27 then (if (rd x1 x5) < 32 then (some false) else (if (rd x1 x5) > 126 then (some false) else (if x0 = 19 then ((warderref03_printable.f (rd x1 x5)).bind fun t360 => (if t360 = true then (warderref03_Right.l0 k x0 x1 (wrap64 (x5 + 1))) else (some false))) else (warderref03_Right.l0 k x0 x1 (wrap64 (x5 + 1)))))) else (if x0 = 19 then ((warderref03_printable.f (rd x1 x5)).bind fun t361 => (if t361 = true then (warderref03_Right.l0 k x0 x1 (wrap64 (x5 + 1))) else (some false))) else (warderref03_Right.l0 k x0 x1 (wrap64 (x5 + 1)))))) else (none)) else (some true)
end
noncomputable def warderref03_Right.f (k : Nat) (a0 : Int) (l1 : List Int) : Option (Bool) := if a0 = 12 then ((utf8_Valid.f l1).bind fun t356 => (some t356)) else (if a0 = 19 then (warderref03_Right.j0 k a0 l1 false) else (if a0 = 22 then (warderref03_Right.j0 k a0 l1 false) else (warderref03_Right.j0 k a0 l1 (a0 != 27))))
set_option maxHeartbeats 8000000 in
set_option maxRecDepth 100000 in
theorem warderref03_Right.calls (k : Nat) (a0 : Int) (A1 : Option Addr) (c1 : Nat) (l1 : List Int) (r : Bool) (w : World) (hr1 : Kd.C (Kd.int .u8) w A1 l1.length l1) (hc1 : l1.length ≤ c1) (h : warderref03_Right.f k a0 l1 = some r) :
  Calls Tryz.prog 90 #[.int .u8 a0, .slice A1 l1.length c1] w fun e w' => e = .returned (.bool r) ∧ Drawn0 w w' := by
 have HR1 := Aside0.mk hr1
 have HC1 := Aside0.mk hc1
 clear hr1 hc1
 have H : (if a0 = 12 then ((utf8_Valid.f l1).bind fun t356 => (some t356)) else (if a0 = 19 then (warderref03_Right.j0 k a0 l1 false) else (if a0 = 22 then (warderref03_Right.j0 k a0 l1 false) else (warderref03_Right.j0 k a0 l1 (a0 != 27))))) = some r := h
 clear h
 by_cases c3 : a0 = 12
 ·rw [if_pos c3] at H
  have c3b0 : (a0 == 12) = true := beq_iff_eq.mpr c3
  have c3b1 : (a0 != 12) = false := bne_eq_false_iff_eq.mpr c3
  clear c3
  replace H := Option.bind_eq_some_iff.mp H
  obtain ⟨t356, A40, H⟩ := H
  replace H : (some t356) = some r := H
  have A4 := Aside0.mk A40
  clear A40
  obtain rfl := Option.some.inj H
  go_enter Tryz.func90, Tryz.ntmps90
  go_wp2_with (first | ((with_reducible refine gate_callee (f := 73) rfl ?_); refine goesL_ (some 10) rfl rfl Tryz.func73 (by kernel_rfl) rfl #[.slice A1 l1.length c1] rfl (by (try simp only [List.map_toArray, List.map_cons, List.map_nil]); first | done | rfl | (simp only [List.length_drop, List.length_take]; rfl)) ?_; (with_reducible refine (utf8_Valid.calls _ _ l1 t356 _ ?side1 ?side2 A4.out).mono ?_); (case side1 => repeat (first | exact HR1.out | (with_reducible refine Kd.C_alloc ?_ _) | (with_reducible refine Kd.C_drewN ?_ _) | (with_reducible refine Kd.C_drew ?_))); (case side2 => exact HC1.out); rintro e w' ⟨rfl, ⟨nd, rfl⟩⟩; refine ⟨_, rfl, ?_⟩))
  go_ret
  exact ⟨by first | rfl | (simp; done) | (simp [*]; done), by repeat (first | exact Drawn0.refl _ | apply Drawn0.step)⟩
 ·rw [if_neg c3] at H
  have c3b0 : (a0 == 12) = false := beq_eq_false_iff_ne.mpr c3
  have c3b1 : (a0 != 12) = true := bne_iff_ne.mpr c3
  have HC5 := Aside0.mk H
  clear H
  go_enter Tryz.func90, Tryz.ntmps90
  go_upto_region 3 with (fail)
  go_cut [20] (fun v20 wc => ∃ (kq : Nat) (x20_4 : Bool), v20 = .bool x20_4 ∧ Aside0 (warderref03_Right.j0 kq a0 l1 x20_4 = some r) ∧ Aside0 (kq ≤ k) ∧ Drawn0 w wc)
  case first =>
   have H := HC5.out
   clear HC5
   by_cases c6 : a0 = 19
   ·rw [if_pos c6] at H
    have c6b0 : (a0 == 19) = true := beq_iff_eq.mpr c6
    have c6b1 : (a0 != 19) = false := bne_eq_false_iff_eq.mpr c6
    clear c6
    (first | rw [c6b0] | (simp only [i64_w, i32_w]; rw [c6b0]) | skip)
    have H' := Aside0.mk H
    clear H
    go_wp2
    go_meet
    case rel => exact ⟨_, (false), (by first | rfl | (simp; done) | (simp [*]; done)), H', ⟨by first | omega | exact Nat.le_refl _⟩, by repeat (first | exact Drawn0.refl _ | apply Drawn0.step)⟩
   ·rw [if_neg c6] at H
    have c6b0 : (a0 == 19) = false := beq_eq_false_iff_ne.mpr c6
    have c6b1 : (a0 != 19) = true := bne_iff_ne.mpr c6
    (first | rw [c6b0] | (simp only [i64_w, i32_w]; rw [c6b0]) | skip)
    by_cases c7 : a0 = 22
    ·rw [if_pos c7] at H
     have c7b0 : (a0 == 22) = true := beq_iff_eq.mpr c7
     have c7b1 : (a0 != 22) = false := bne_eq_false_iff_eq.mpr c7
     clear c7
     have H' := Aside0.mk H
     clear H
     go_wp2
     go_meet
     case rel => exact ⟨_, (false), (by first | rfl | (simp; done) | (simp [*]; done)), H', ⟨by first | omega | exact Nat.le_refl _⟩, by repeat (first | exact Drawn0.refl _ | apply Drawn0.step)⟩
    ·rw [if_neg c7] at H
     have c7b0 : (a0 == 22) = false := beq_eq_false_iff_ne.mpr c7
     have c7b1 : (a0 != 22) = true := bne_iff_ne.mpr c7
     have H' := Aside0.mk H
     clear H
     go_wp2
     go_meet
     case rel => exact ⟨_, ((a0 != 27)), (by first | rfl | (simp; done) | (simp [*]; done)), H', ⟨by first | omega | exact Nat.le_refl _⟩, by repeat (first | exact Drawn0.refl _ | apply Drawn0.step)⟩
  case rest =>
   clear HC5
   try clear c1
   try clear p2
   try clear c3
   try clear c3b0
   try clear c3b1
   try clear c6
   try clear c6b0
   try clear c6b1
   try clear c7
   try clear c7b0
   try clear c7b1
   obtain ⟨kq, x20_4, rfl, HA, HJ4, ⟨mc4, rfl⟩⟩ := hcut
   cases kq with
   | zero => exact absurd HA.out (by simp [warderref03_Right.j0])
   | succ kj4 =>
    have H := HA.out
    clear HA
    simp only [warderref03_Right.j0] at H
    by_cases c8 : x20_4 = true
    ·subst c8
     have H1 : (some false) = some r := by rw [if_pos rfl] at H; exact H
     clear H
     have H := H1
     clear H1
     obtain rfl := Option.some.inj H
     go_wp2
     go_ret
     exact ⟨by first | rfl | (simp; done) | (simp [*]; done), by repeat (first | exact Drawn0.refl _ | apply Drawn0.step)⟩
    ·replace c8 := Bool.eq_false_iff.mpr c8
     subst c8
     have H1 : (warderref03_Right.l0 kj4 a0 l1 0) = some r := by rw [if_neg (show ¬ (false = true) by decide)] at H; exact H
     clear H
     have H := H1
     clear H1
     have H' := Aside0.mk H
     clear H
     go_wp2
     go_loopg [5] kj4 (fun kq v5 w' => ∃ (x5_2 : Int), v5 = .int .i64 x5_2 ∧ Aside0 (warderref03_Right.l0 kq a0 l1 x5_2 = some r) ∧ Aside0 (kq ≤ kj4) ∧ Drawn0 w w')
     case atStart => exact ⟨(0), (by first | rfl | (simp; done) | (simp [*]; done)), H', ⟨Nat.le_refl _⟩, by repeat (first | exact Drawn0.refl _ | apply Drawn0.step)⟩
     case round =>
      clear H'
      try clear c1
      try clear p2
      try clear c3
      try clear c3b0
      try clear c3b1
      try clear c4
      try clear c6
      try clear c6b0
      try clear c6b1
      try clear c7
      try clear c7b0
      try clear c7b1
      try clear c8
      try clear p2
      obtain ⟨x5_2, rfl, HA, HK2, ⟨m2, rfl⟩⟩ := hrel
      cases gk with
      | zero => exact absurd HA.out (by simp [warderref03_Right.l0])
      | succ k2 =>
       have H := HA.out
       clear HA
       simp only [warderref03_Right.l0] at H
       by_cases c9 : x5_2 < (l1.length : Int)
       ·rw [if_pos c9] at H
        have c9b0 : decide (x5_2 < (l1.length : Int)) = true := decide_eq_true c9
        clear c9
        by_cases c10 : 0 ≤ x5_2
        ·rw [if_pos c10] at H
         have c10b0 : decide (0 ≤ x5_2) = true := decide_eq_true c10
         clear c10
         by_cases c11 : a0 = 22
         ·rw [if_pos c11] at H
          have c11b0 : (a0 == 22) = true := beq_iff_eq.mpr c11
          have c11b1 : (a0 != 22) = false := bne_eq_false_iff_eq.mpr c11
          clear c11
          by_cases c12 : (rd l1 x5_2) ≥ 128
          ·rw [if_pos c12] at H
           have c12b0 : decide (128 ≤ (rd l1 x5_2)) = true := decide_eq_true c12
           clear c12
           obtain rfl := Option.some.inj H
           have p357 : 0 ≤ (x5_2 : Int) := of_decide_eq_true (by first | (with_reducible assumption) | assumption)
           have q357 : x5_2 < (l1.length : Int) := of_decide_eq_true (by first | (with_reducible assumption) | assumption)
           obtain ⟨ad357, e357, hx357_0⟩ := Kd.at_int HR1.out x5_2 p357 q357
           cases e357
           replace p357 := eq_true p357
           replace q357 := eq_true q357
           go_wp2
           go_ret
           exact ⟨by first | rfl | (simp; done) | (simp [*]; done), by repeat (first | exact Drawn0.refl _ | apply Drawn0.step)⟩
          ·rw [if_neg c12] at H
           have c12b0 : decide (128 ≤ (rd l1 x5_2)) = false := decide_eq_false c12
           clear c12
           by_cases c13 : a0 = 27
           ·rw [if_pos c13] at H
            have c13b0 : (a0 == 27) = true := beq_iff_eq.mpr c13
            have c13b1 : (a0 != 27) = false := bne_eq_false_iff_eq.mpr c13
            clear c13
            by_cases c14 : (rd l1 x5_2) < 32
            ·rw [if_pos c14] at H
             have c14b0 : decide ((rd l1 x5_2) < 32) = true := decide_eq_true c14
             clear c14
             obtain rfl := Option.some.inj H
             have p357 : 0 ≤ (x5_2 : Int) := of_decide_eq_true (by first | (with_reducible assumption) | assumption)
             have q357 : x5_2 < (l1.length : Int) := of_decide_eq_true (by first | (with_reducible assumption) | assumption)
             obtain ⟨ad357, e357, hx357_0⟩ := Kd.at_int HR1.out x5_2 p357 q357
             cases e357
             replace p357 := eq_true p357
             replace q357 := eq_true q357
             go_wp2
             go_ret
             exact ⟨by first | rfl | (simp; done) | (simp [*]; done), by repeat (first | exact Drawn0.refl _ | apply Drawn0.step)⟩
            ·rw [if_neg c14] at H
             have c14b0 : decide ((rd l1 x5_2) < 32) = false := decide_eq_false c14
             clear c14
             by_cases c15 : (rd l1 x5_2) > 126
             ·rw [if_pos c15] at H
              have c15b0 : decide (126 < (rd l1 x5_2)) = true := decide_eq_true c15
              clear c15
              obtain rfl := Option.some.inj H
              have p357 : 0 ≤ (x5_2 : Int) := of_decide_eq_true (by first | (with_reducible assumption) | assumption)
              have q357 : x5_2 < (l1.length : Int) := of_decide_eq_true (by first | (with_reducible assumption) | assumption)
              obtain ⟨ad357, e357, hx357_0⟩ := Kd.at_int HR1.out x5_2 p357 q357
              cases e357
              replace p357 := eq_true p357
              replace q357 := eq_true q357
              go_wp2
              go_ret
              exact ⟨by first | rfl | (simp; done) | (simp [*]; done), by repeat (first | exact Drawn0.refl _ | apply Drawn0.step)⟩
             ·rw [if_neg c15] at H
              have c15b0 : decide (126 < (rd l1 x5_2)) = false := decide_eq_false c15
              clear c15
              by_cases c16 : a0 = 19
              ·rw [if_pos c16] at H
               have c16b0 : (a0 == 19) = true := beq_iff_eq.mpr c16
               have c16b1 : (a0 != 19) = false := bne_eq_false_iff_eq.mpr c16
               clear c16
               replace H := Option.bind_eq_some_iff.mp H
               obtain ⟨t358, A170, H⟩ := H
               replace H : (if t358 = true then (warderref03_Right.l0 k2 a0 l1 (wrap64 (x5_2 + 1))) else (some false)) = some r := H
               have A17 := Aside0.mk A170
               clear A170
               by_cases c18 : t358 = true
               ·subst c18
                have H1 : (warderref03_Right.l0 k2 a0 l1 (wrap64 (x5_2 + 1))) = some r := by rw [if_pos rfl] at H; exact H
                clear H
                have H := H1
                clear H1
                have H' := Aside0.mk H
                clear H
                have p357 : 0 ≤ (x5_2 : Int) := of_decide_eq_true (by first | (with_reducible assumption) | assumption)
                have q357 : x5_2 < (l1.length : Int) := of_decide_eq_true (by first | (with_reducible assumption) | assumption)
                obtain ⟨ad357, e357, hx357_0⟩ := Kd.at_int HR1.out x5_2 p357 q357
                cases e357
                replace p357 := eq_true p357
                replace q357 := eq_true q357
                go_wp2_with (first | (go_at_call 110; (with_reducible refine (warderref03_printable.calls (rd l1 x5_2) true _ A17.out).mono ?_); rintro e w' ⟨rfl, ⟨nd, rfl⟩⟩))
                go_roundg k2
                case measure => have := HJ4.out; have := HK2.out; omega
                case rel => exact ⟨(wrap64 (x5_2 + 1)), (by first | rfl | (simp; done) | (simp [*]; done)), H', ⟨by have := HJ4.out; have := HK2.out; omega⟩, by repeat (first | exact Drawn0.refl _ | apply Drawn0.step)⟩
               ·replace c18 := Bool.eq_false_iff.mpr c18
                subst c18
                have H1 : (some false) = some r := by rw [if_neg (show ¬ (false = true) by decide)] at H; exact H
                clear H
                have H := H1
                clear H1
                obtain rfl := Option.some.inj H
                have p357 : 0 ≤ (x5_2 : Int) := of_decide_eq_true (by first | (with_reducible assumption) | assumption)
                have q357 : x5_2 < (l1.length : Int) := of_decide_eq_true (by first | (with_reducible assumption) | assumption)
                obtain ⟨ad357, e357, hx357_0⟩ := Kd.at_int HR1.out x5_2 p357 q357
                cases e357
                replace p357 := eq_true p357
                replace q357 := eq_true q357
                go_wp2_with (first | (go_at_call 110; (with_reducible refine (warderref03_printable.calls (rd l1 x5_2) false _ A17.out).mono ?_); rintro e w' ⟨rfl, ⟨nd, rfl⟩⟩))
                go_ret
                exact ⟨by first | rfl | (simp; done) | (simp [*]; done), by repeat (first | exact Drawn0.refl _ | apply Drawn0.step)⟩
              ·rw [if_neg c16] at H
               have c16b0 : (a0 == 19) = false := beq_eq_false_iff_ne.mpr c16
               have c16b1 : (a0 != 19) = true := bne_iff_ne.mpr c16
               have H' := Aside0.mk H
               clear H
               have p357 : 0 ≤ (x5_2 : Int) := of_decide_eq_true (by first | (with_reducible assumption) | assumption)
               have q357 : x5_2 < (l1.length : Int) := of_decide_eq_true (by first | (with_reducible assumption) | assumption)
               obtain ⟨ad357, e357, hx357_0⟩ := Kd.at_int HR1.out x5_2 p357 q357
               cases e357
               replace p357 := eq_true p357
               replace q357 := eq_true q357
               go_wp2
               go_roundg k2
               case measure => have := HJ4.out; have := HK2.out; omega
               case rel => exact ⟨(wrap64 (x5_2 + 1)), (by first | rfl | (simp; done) | (simp [*]; done)), H', ⟨by have := HJ4.out; have := HK2.out; omega⟩, by repeat (first | exact Drawn0.refl _ | apply Drawn0.step)⟩
           ·rw [if_neg c13] at H
            have c13b0 : (a0 == 27) = false := beq_eq_false_iff_ne.mpr c13
            have c13b1 : (a0 != 27) = true := bne_iff_ne.mpr c13
            by_cases c19 : a0 = 19
            ·rw [if_pos c19] at H
             have c19b0 : (a0 == 19) = true := beq_iff_eq.mpr c19
             have c19b1 : (a0 != 19) = false := bne_eq_false_iff_eq.mpr c19
             clear c19
             replace H := Option.bind_eq_some_iff.mp H
             obtain ⟨t359, A200, H⟩ := H
             replace H : (if t359 = true then (warderref03_Right.l0 k2 a0 l1 (wrap64 (x5_2 + 1))) else (some false)) = some r := H
             have A20 := Aside0.mk A200
             clear A200
             by_cases c21 : t359 = true
             ·subst c21
              have H1 : (warderref03_Right.l0 k2 a0 l1 (wrap64 (x5_2 + 1))) = some r := by rw [if_pos rfl] at H; exact H
              clear H
              have H := H1
              clear H1
              have H' := Aside0.mk H
              clear H
              have p357 : 0 ≤ (x5_2 : Int) := of_decide_eq_true (by first | (with_reducible assumption) | assumption)
              have q357 : x5_2 < (l1.length : Int) := of_decide_eq_true (by first | (with_reducible assumption) | assumption)
              obtain ⟨ad357, e357, hx357_0⟩ := Kd.at_int HR1.out x5_2 p357 q357
              cases e357
              replace p357 := eq_true p357
              replace q357 := eq_true q357
              go_wp2_with (first | (go_at_call 110; (with_reducible refine (warderref03_printable.calls (rd l1 x5_2) true _ A20.out).mono ?_); rintro e w' ⟨rfl, ⟨nd, rfl⟩⟩))
              go_roundg k2
              case measure => have := HJ4.out; have := HK2.out; omega
              case rel => exact ⟨(wrap64 (x5_2 + 1)), (by first | rfl | (simp; done) | (simp [*]; done)), H', ⟨by have := HJ4.out; have := HK2.out; omega⟩, by repeat (first | exact Drawn0.refl _ | apply Drawn0.step)⟩
             ·replace c21 := Bool.eq_false_iff.mpr c21
              subst c21
              have H1 : (some false) = some r := by rw [if_neg (show ¬ (false = true) by decide)] at H; exact H
              clear H
              have H := H1
              clear H1
              obtain rfl := Option.some.inj H
              have p357 : 0 ≤ (x5_2 : Int) := of_decide_eq_true (by first | (with_reducible assumption) | assumption)
              have q357 : x5_2 < (l1.length : Int) := of_decide_eq_true (by first | (with_reducible assumption) | assumption)
              obtain ⟨ad357, e357, hx357_0⟩ := Kd.at_int HR1.out x5_2 p357 q357
              cases e357
              replace p357 := eq_true p357
              replace q357 := eq_true q357
              go_wp2_with (first | (go_at_call 110; (with_reducible refine (warderref03_printable.calls (rd l1 x5_2) false _ A20.out).mono ?_); rintro e w' ⟨rfl, ⟨nd, rfl⟩⟩))
              go_ret
              exact ⟨by first | rfl | (simp; done) | (simp [*]; done), by repeat (first | exact Drawn0.refl _ | apply Drawn0.step)⟩
            ·rw [if_neg c19] at H
             have c19b0 : (a0 == 19) = false := beq_eq_false_iff_ne.mpr c19
             have c19b1 : (a0 != 19) = true := bne_iff_ne.mpr c19
             have H' := Aside0.mk H
             clear H
             have p357 : 0 ≤ (x5_2 : Int) := of_decide_eq_true (by first | (with_reducible assumption) | assumption)
             have q357 : x5_2 < (l1.length : Int) := of_decide_eq_true (by first | (with_reducible assumption) | assumption)
             obtain ⟨ad357, e357, hx357_0⟩ := Kd.at_int HR1.out x5_2 p357 q357
             cases e357
             replace p357 := eq_true p357
             replace q357 := eq_true q357
             go_wp2
             go_roundg k2
             case measure => have := HJ4.out; have := HK2.out; omega
             case rel => exact ⟨(wrap64 (x5_2 + 1)), (by first | rfl | (simp; done) | (simp [*]; done)), H', ⟨by have := HJ4.out; have := HK2.out; omega⟩, by repeat (first | exact Drawn0.refl _ | apply Drawn0.step)⟩
         ·rw [if_neg c11] at H
          have c11b0 : (a0 == 22) = false := beq_eq_false_iff_ne.mpr c11
          have c11b1 : (a0 != 22) = true := bne_iff_ne.mpr c11
          by_cases c22 : a0 = 27
          ·rw [if_pos c22] at H
           have c22b0 : (a0 == 27) = true := beq_iff_eq.mpr c22
           have c22b1 : (a0 != 27) = false := bne_eq_false_iff_eq.mpr c22
           clear c22
           by_cases c23 : (rd l1 x5_2) < 32
           ·rw [if_pos c23] at H
            have c23b0 : decide ((rd l1 x5_2) < 32) = true := decide_eq_true c23
            clear c23
            obtain rfl := Option.some.inj H
            have p357 : 0 ≤ (x5_2 : Int) := of_decide_eq_true (by first | (with_reducible assumption) | assumption)
            have q357 : x5_2 < (l1.length : Int) := of_decide_eq_true (by first | (with_reducible assumption) | assumption)
            obtain ⟨ad357, e357, hx357_0⟩ := Kd.at_int HR1.out x5_2 p357 q357
            cases e357
            replace p357 := eq_true p357
            replace q357 := eq_true q357
            go_wp2
            go_ret
            exact ⟨by first | rfl | (simp; done) | (simp [*]; done), by repeat (first | exact Drawn0.refl _ | apply Drawn0.step)⟩
           ·rw [if_neg c23] at H
            have c23b0 : decide ((rd l1 x5_2) < 32) = false := decide_eq_false c23
            clear c23
            by_cases c24 : (rd l1 x5_2) > 126
            ·rw [if_pos c24] at H
             have c24b0 : decide (126 < (rd l1 x5_2)) = true := decide_eq_true c24
             clear c24
             obtain rfl := Option.some.inj H
             have p357 : 0 ≤ (x5_2 : Int) := of_decide_eq_true (by first | (with_reducible assumption) | assumption)
             have q357 : x5_2 < (l1.length : Int) := of_decide_eq_true (by first | (with_reducible assumption) | assumption)
             obtain ⟨ad357, e357, hx357_0⟩ := Kd.at_int HR1.out x5_2 p357 q357
             cases e357
             replace p357 := eq_true p357
             replace q357 := eq_true q357
             go_wp2
             go_ret
             exact ⟨by first | rfl | (simp; done) | (simp [*]; done), by repeat (first | exact Drawn0.refl _ | apply Drawn0.step)⟩
            ·rw [if_neg c24] at H
             have c24b0 : decide (126 < (rd l1 x5_2)) = false := decide_eq_false c24
             clear c24
             by_cases c25 : a0 = 19
             ·rw [if_pos c25] at H
              have c25b0 : (a0 == 19) = true := beq_iff_eq.mpr c25
              have c25b1 : (a0 != 19) = false := bne_eq_false_iff_eq.mpr c25
              clear c25
              replace H := Option.bind_eq_some_iff.mp H
              obtain ⟨t360, A260, H⟩ := H
              replace H : (if t360 = true then (warderref03_Right.l0 k2 a0 l1 (wrap64 (x5_2 + 1))) else (some false)) = some r := H
              have A26 := Aside0.mk A260
              clear A260
              by_cases c27 : t360 = true
              ·subst c27
               have H1 : (warderref03_Right.l0 k2 a0 l1 (wrap64 (x5_2 + 1))) = some r := by rw [if_pos rfl] at H; exact H
               clear H
               have H := H1
               clear H1
               have H' := Aside0.mk H
               clear H
               have p357 : 0 ≤ (x5_2 : Int) := of_decide_eq_true (by first | (with_reducible assumption) | assumption)
               have q357 : x5_2 < (l1.length : Int) := of_decide_eq_true (by first | (with_reducible assumption) | assumption)
               obtain ⟨ad357, e357, hx357_0⟩ := Kd.at_int HR1.out x5_2 p357 q357
               cases e357
               replace p357 := eq_true p357
               replace q357 := eq_true q357
               go_wp2_with (first | (go_at_call 110; (with_reducible refine (warderref03_printable.calls (rd l1 x5_2) true _ A26.out).mono ?_); rintro e w' ⟨rfl, ⟨nd, rfl⟩⟩))
               go_roundg k2
               case measure => have := HJ4.out; have := HK2.out; omega
               case rel => exact ⟨(wrap64 (x5_2 + 1)), (by first | rfl | (simp; done) | (simp [*]; done)), H', ⟨by have := HJ4.out; have := HK2.out; omega⟩, by repeat (first | exact Drawn0.refl _ | apply Drawn0.step)⟩
              ·replace c27 := Bool.eq_false_iff.mpr c27
               subst c27
               have H1 : (some false) = some r := by rw [if_neg (show ¬ (false = true) by decide)] at H; exact H
               clear H
               have H := H1
               clear H1
               obtain rfl := Option.some.inj H
               have p357 : 0 ≤ (x5_2 : Int) := of_decide_eq_true (by first | (with_reducible assumption) | assumption)
               have q357 : x5_2 < (l1.length : Int) := of_decide_eq_true (by first | (with_reducible assumption) | assumption)
               obtain ⟨ad357, e357, hx357_0⟩ := Kd.at_int HR1.out x5_2 p357 q357
               cases e357
               replace p357 := eq_true p357
               replace q357 := eq_true q357
               go_wp2_with (first | (go_at_call 110; (with_reducible refine (warderref03_printable.calls (rd l1 x5_2) false _ A26.out).mono ?_); rintro e w' ⟨rfl, ⟨nd, rfl⟩⟩))
               go_ret
               exact ⟨by first | rfl | (simp; done) | (simp [*]; done), by repeat (first | exact Drawn0.refl _ | apply Drawn0.step)⟩
             ·rw [if_neg c25] at H
              have c25b0 : (a0 == 19) = false := beq_eq_false_iff_ne.mpr c25
              have c25b1 : (a0 != 19) = true := bne_iff_ne.mpr c25
              have H' := Aside0.mk H
              clear H
              have p357 : 0 ≤ (x5_2 : Int) := of_decide_eq_true (by first | (with_reducible assumption) | assumption)
              have q357 : x5_2 < (l1.length : Int) := of_decide_eq_true (by first | (with_reducible assumption) | assumption)
              obtain ⟨ad357, e357, hx357_0⟩ := Kd.at_int HR1.out x5_2 p357 q357
              cases e357
              replace p357 := eq_true p357
              replace q357 := eq_true q357
              go_wp2
              go_roundg k2
              case measure => have := HJ4.out; have := HK2.out; omega
              case rel => exact ⟨(wrap64 (x5_2 + 1)), (by first | rfl | (simp; done) | (simp [*]; done)), H', ⟨by have := HJ4.out; have := HK2.out; omega⟩, by repeat (first | exact Drawn0.refl _ | apply Drawn0.step)⟩
          ·rw [if_neg c22] at H
           have c22b0 : (a0 == 27) = false := beq_eq_false_iff_ne.mpr c22
           have c22b1 : (a0 != 27) = true := bne_iff_ne.mpr c22
           by_cases c28 : a0 = 19
           ·rw [if_pos c28] at H
            have c28b0 : (a0 == 19) = true := beq_iff_eq.mpr c28
            have c28b1 : (a0 != 19) = false := bne_eq_false_iff_eq.mpr c28
            clear c28
            replace H := Option.bind_eq_some_iff.mp H
            obtain ⟨t361, A290, H⟩ := H
            replace H : (if t361 = true then (warderref03_Right.l0 k2 a0 l1 (wrap64 (x5_2 + 1))) else (some false)) = some r := H
            have A29 := Aside0.mk A290
            clear A290
            by_cases c30 : t361 = true
            ·subst c30
             have H1 : (warderref03_Right.l0 k2 a0 l1 (wrap64 (x5_2 + 1))) = some r := by rw [if_pos rfl] at H; exact H
             clear H
             have H := H1
             clear H1
             have H' := Aside0.mk H
             clear H
             have p357 : 0 ≤ (x5_2 : Int) := of_decide_eq_true (by first | (with_reducible assumption) | assumption)
             have q357 : x5_2 < (l1.length : Int) := of_decide_eq_true (by first | (with_reducible assumption) | assumption)
             obtain ⟨ad357, e357, hx357_0⟩ := Kd.at_int HR1.out x5_2 p357 q357
             cases e357
             replace p357 := eq_true p357
             replace q357 := eq_true q357
             go_wp2_with (first | (go_at_call 110; (with_reducible refine (warderref03_printable.calls (rd l1 x5_2) true _ A29.out).mono ?_); rintro e w' ⟨rfl, ⟨nd, rfl⟩⟩))
             go_roundg k2
             case measure => have := HJ4.out; have := HK2.out; omega
             case rel => exact ⟨(wrap64 (x5_2 + 1)), (by first | rfl | (simp; done) | (simp [*]; done)), H', ⟨by have := HJ4.out; have := HK2.out; omega⟩, by repeat (first | exact Drawn0.refl _ | apply Drawn0.step)⟩
            ·replace c30 := Bool.eq_false_iff.mpr c30
             subst c30
             have H1 : (some false) = some r := by rw [if_neg (show ¬ (false = true) by decide)] at H; exact H
             clear H
             have H := H1
             clear H1
             obtain rfl := Option.some.inj H
             have p357 : 0 ≤ (x5_2 : Int) := of_decide_eq_true (by first | (with_reducible assumption) | assumption)
             have q357 : x5_2 < (l1.length : Int) := of_decide_eq_true (by first | (with_reducible assumption) | assumption)
             obtain ⟨ad357, e357, hx357_0⟩ := Kd.at_int HR1.out x5_2 p357 q357
             cases e357
             replace p357 := eq_true p357
             replace q357 := eq_true q357
             go_wp2_with (first | (go_at_call 110; (with_reducible refine (warderref03_printable.calls (rd l1 x5_2) false _ A29.out).mono ?_); rintro e w' ⟨rfl, ⟨nd, rfl⟩⟩))
             go_ret
             exact ⟨by first | rfl | (simp; done) | (simp [*]; done), by repeat (first | exact Drawn0.refl _ | apply Drawn0.step)⟩
           ·rw [if_neg c28] at H
            have c28b0 : (a0 == 19) = false := beq_eq_false_iff_ne.mpr c28
            have c28b1 : (a0 != 19) = true := bne_iff_ne.mpr c28
            have H' := Aside0.mk H
            clear H
            have p357 : 0 ≤ (x5_2 : Int) := of_decide_eq_true (by first | (with_reducible assumption) | assumption)
            have q357 : x5_2 < (l1.length : Int) := of_decide_eq_true (by first | (with_reducible assumption) | assumption)
            obtain ⟨ad357, e357, hx357_0⟩ := Kd.at_int HR1.out x5_2 p357 q357
            cases e357
            replace p357 := eq_true p357
            replace q357 := eq_true q357
            go_wp2
            go_roundg k2
            case measure => have := HJ4.out; have := HK2.out; omega
            case rel => exact ⟨(wrap64 (x5_2 + 1)), (by first | rfl | (simp; done) | (simp [*]; done)), H', ⟨by have := HJ4.out; have := HK2.out; omega⟩, by repeat (first | exact Drawn0.refl _ | apply Drawn0.step)⟩
        ·rw [if_neg c10] at H
         exact absurd H (by simp)
       ·rw [if_neg c9] at H
        have c9b0 : decide (x5_2 < (l1.length : Int)) = false := decide_eq_false c9
        clear c9
        obtain rfl := Option.some.inj H
        go_wp2
        go_ret
        exact ⟨by first | rfl | (simp; done) | (simp [*]; done), by repeat (first | exact Drawn0.refl _ | apply Drawn0.step)⟩
end Go.Proofs.YtncanijjnhkgbaaGreatDoor.PMsgsPut
namespace Go.Proofs.YtncanijjnhkgbaaGreatDoor.PMsgsPut
open Go.RowKit Go.Proofs.YtncanijjnhkgbaaGreatDoorW.PrintWords Go.Proofs.YtncanijjnhkgbaaGreatDoorW.PrintLast Go.Proofs.YtncanijjnhkgbaaGreatDoorW.PrintMore
def warderref09_Text.f (a0 : Int) (a1 : ByteArray) : Option (Int × List Int × (List (S44))) := if a1.size ≤ 1048576 then some (a0, bytesOf a1, []) else none
theorem warderref09_Text.calls (a0 : Int) (a1 : ByteArray) (r1 : Int) (r2 : List Int) (r3 : List (S44)) (w : World) (h : warderref09_Text.f a0 a1 = some (r1, r2, r3)) :
  Calls Tryz.prog 65 #[.int .u8 a0, .string a1] w fun e w' => ∃ v1_ v2_ : Value, e = .returned (.agg #[.int .u8 r1, v1_, v2_]) ∧ Kd.V (Kd.int .u8) 5 w' w.heap.size (fun k_ => (w.heap.size ≤ k_)) v1_ r2 ∧ Kd.V k44 44 w' w.heap.size (fun k_ => (w.heap.size ≤ k_)) v2_ r3 ∧ Below w.heap.size w w' := by
 unfold warderref09_Text.f at h
 by_cases hs : ¬ a1.size ≤ 1048576
 ·rw [if_neg hs] at h; cases h
 rw [Classical.not_not] at hs
 rw [if_pos hs] at h
 obtain ⟨rfl, rfl, rfl⟩ : a0 = r1 ∧ bytesOf a1 = r2 ∧ [] = r3 := by
  simpa using h
 clear h
 have hcv := conv_bytes a1
 have hb : (Lib.bytesWorld (w.alloc (.cells #[.int .u8 0, .slice none 0 0, .slice none 0 0] 44)) 5 a1).heap[w.heap.size]? = some (.cells #[.int .u8 0, .slice none 0 0, .slice none 0 0] 44) :=
  (Lib.bytesWorld_at_old _ _ _ _ (by simp only [World.alloc, Array.size_push]; omega)).trans (blk_new _ _)
 have z0 : (Lib.bytesWorld (w.alloc (.cells #[.int .u8 0, .slice none 0 0, .slice none 0 0] 44)) 5 a1).cell? ⟨w.heap.size, 0, none⟩ = some (.int .u8 0) := (blk_cell hb 0).trans rfl
 have z1 : (Lib.bytesWorld (w.alloc (.cells #[.int .u8 0, .slice none 0 0, .slice none 0 0] 44)) 5 a1).cell? ⟨w.heap.size, 1, none⟩ = some (.slice none 0 0) := (blk_cell hb 1).trans rfl
 have z2 : (Lib.bytesWorld (w.alloc (.cells #[.int .u8 0, .slice none 0 0, .slice none 0 0] 44)) 5 a1).cell? ⟨w.heap.size, 2, none⟩ = some (.slice none 0 0) := (blk_cell hb 2).trans rfl
 have y0 := blk_frozen hb 0
 have y1 := blk_frozen hb 1
 have y2 := blk_frozen hb 2
 go_enter Tryz.func65, Tryz.ntmps65
 go_wp2
 refine bodyPost_ret (results_cell_row rfl _ _ w.heap.size 44 #[.int .u8 a0, .slice (some ⟨w.heap.size + 1, 0, none⟩) a1.size (grownCap (w.alloc (.cells #[.int .u8 0, .slice none 0 0, .slice none 0 0] 44)) a1.size 0 5), .slice none 0 0] (0, 0) _ rfl (blk_put (blk_put (blk_put hb 0 _ rfl) 1 _ rfl) 2 _ rfl) Tryz.underlying44 rfl (by kernel_rfl)) rfl ?_
 have hlt : ∀ k, w.heap.size ≤ k ∧ k ≠ w.heap.size → k ≠ w.heap.size := fun _ h => h.2
 refine ⟨_, _, rfl, Kd.V_mono (Kd.V_far (Kd.V_far (Kd.V_far (bytes_V _ 5 a1 _ (by simp only [World.alloc, Array.size_push]) (by omega) _ (fun k => w.heap.size ≤ k ∧ k ≠ w.heap.size) ⟨by omega, by omega⟩) hlt _) hlt _) hlt _) (fun _ h => h.1), Kd.V_nil _ _ _ _ _, ?_⟩
 refine below_set (below_set (below_set ((below_alloc (Below.refl _ _) _).trans (Below.mono (bytesWorld_below _ _ _) ?_)) (Nat.le_refl _)) (Nat.le_refl _)) (Nat.le_refl _)
 simp only [World.alloc, Array.size_push]
 omega
def inText (c : Int) : Bool := decide (32 ≤ c) && decide (c ≤ 126)
theorem genS_all (s : ByteArray) : genS s = (bytesOf s).all inText := by
 unfold genS bytesOf inText
 rw [List.all_map]
 congr 1
 funext b
 simp only [Function.comp]
 congr 1 <;> exact decide_eq_decide.2 (by omega)
theorem ref_right_loop (l : List Int) (hl : l.length ≤ 1048576) : ∀ (d i : Nat), i + d = l.length → ∀ k, d < k → warderref03_Right.l0 k 27 l (i : Int) = some ((l.drop i).all inText)
 | 0, i, h, k, hk => by
  obtain ⟨k, rfl⟩ : ∃ m, k = m + 1 := ⟨k - 1, by omega⟩
  simp only [warderref03_Right.l0]
  rw [if_neg (by omega), List.drop_eq_nil_of_le (by omega)]
  rfl
 | d + 1, i, h, k, hk => by
  obtain ⟨k, rfl⟩ : ∃ m, k = m + 1 := ⟨k - 1, by omega⟩
  have hi : i < l.length := by omega
  have hr : rd l (i : Int) = l[i] := by
   unfold rd
   rw [Int.toNat_natCast, List.getD_eq_getElem?_getD, List.getElem?_eq_getElem hi]
   rfl
  have hw : wrap64 ((i : Int) + 1) = ((i + 1 : Nat) : Int) := by unfold wrap64; omega
  have ih := ref_right_loop l hl d (i + 1) (by omega) k (by omega)
  rw [List.drop_eq_getElem_cons hi, List.all_cons]
  simp only [warderref03_Right.l0]
  rw [if_pos (by omega), if_pos (by omega), if_neg (by decide), if_pos trivial, hr, hw, ih]
  by_cases h1 : l[i] < 32
  ·rw [if_pos h1, inText, decide_eq_false (by omega), Bool.false_and, Bool.false_and]
  ·rw [if_neg h1]
   by_cases h2 : l[i] > 126
   ·rw [if_pos h2, inText, decide_eq_false (p := l[i] ≤ 126) (by omega), Bool.and_false, Bool.false_and]
   ·rw [if_neg h2, if_neg (by decide), inText, decide_eq_true (by omega), decide_eq_true (by omega)]
    rfl
theorem ref_right (l : List Int) (hl : l.length ≤ 1048576) (k : Nat) (hk : l.length + 1 < k) : warderref03_Right.f k 27 l = some (l.all inText) := by
 obtain ⟨k, rfl⟩ : ∃ m, k = m + 1 := ⟨k - 1, by omega⟩
 unfold warderref03_Right.f
 rw [if_neg (by decide), if_neg (by decide), if_neg (by decide)]
 simp only [warderref03_Right.j0]
 rw [if_neg (by decide)]
 exact ref_right_loop l hl l.length 0 (by omega) k (by omega)
def warderref09_word.f (a0 : ByteArray) : Option (Bool) := if a0.size ≤ 1048576 then some (wordB a0) else none
theorem warderref09_word.calls (a0 : ByteArray) (r : Bool) (w : World) (h : warderref09_word.f a0 = some r) :
  Calls Tryz.prog 60 #[.string a0] w fun e w' => e = .returned (.bool r) ∧ Below w.heap.size w w' := by
 unfold warderref09_word.f at h
 by_cases hs : ¬ a0.size ≤ 1048576
 ·rw [if_neg hs] at h; cases h
 rw [Classical.not_not] at hs
 rw [if_pos hs] at h
 obtain rfl := Option.some.inj h
 clear h
 have hcv := conv_bytes a0
 have hC := bytes_C w (Lib.bytesWorld w 5 a0) 5 a0 (by omega) rfl
 have hc := grownCap_ge w a0.size 0 5
 rw [← bytesOf_length] at hs hc
 have cS := warderref03_Right.calls ((bytesOf a0).length + 2) 27 _ _ (bytesOf a0) _ _ hC hc (ref_right _ hs _ (by omega))
 rw [← genS_all, bytesOf_length] at cS
 have hbw := bytesWorld_below w 5 a0
 unfold wordB
 generalize genS a0 = G at cS ⊢
 cases G
 ·rw [Bool.and_false]
  clear hC hc hs
  go_enter Tryz.func60, Tryz.ntmps60
  go_wp2_with (refine cS.mono ?_; rintro e W' ⟨rfl, ⟨nd, rfl⟩⟩)
  go_ret
  exact ⟨by first | rfl | simp [*], pw_below_drewN hbw _⟩
 ·rw [Bool.and_true]
  clear hC hc hs
  by_cases h1 : 0 < a0.size
  ·by_cases h2 : a0.size ≤ 64
   ·rw [decide_eq_true h1, decide_eq_true h2]
    have h3 : (0 : Int) < (a0.size : Int) := by omega
    have h4 : (a0.size : Int) ≤ 64 := by omega
    go_enter Tryz.func60, Tryz.ntmps60
    go_wp2_with (refine cS.mono ?_; rintro e W' ⟨rfl, ⟨nd, rfl⟩⟩)
    go_ret
    exact ⟨by first | rfl | simp [*], pw_below_drewN hbw _⟩
   ·rw [decide_eq_true h1, decide_eq_false h2]
    have h3 : (0 : Int) < (a0.size : Int) := by omega
    have h4 : ¬ (a0.size : Int) ≤ 64 := by omega
    go_enter Tryz.func60, Tryz.ntmps60
    go_wp2_with (refine cS.mono ?_; rintro e W' ⟨rfl, ⟨nd, rfl⟩⟩)
    go_ret
    exact ⟨by first | rfl | simp [*], pw_below_drewN hbw _⟩
  ·rw [decide_eq_false h1]
   have h3 : ¬ (0 : Int) < (a0.size : Int) := by omega
   go_enter Tryz.func60, Tryz.ntmps60
   go_wp2_with (refine cS.mono ?_; rintro e W' ⟨rfl, ⟨nd, rfl⟩⟩)
   go_ret
   exact ⟨by first | rfl | simp [*], pw_below_drewN hbw _⟩
end Go.Proofs.YtncanijjnhkgbaaGreatDoor.PMsgsPut
namespace Go.Proofs.YtncanijjnhkgbaaGreatDoor.PMsgsPut
open Go.RowKit Go.Proofs.YtncanijjnhkgbaaGreatDoorW.PrintWords Go.Proofs.YtncanijjnhkgbaaGreatDoorW.PrintLast Go.Proofs.YtncanijjnhkgbaaGreatDoorW.PrintMore
attribute [local go_sem] max2_int min2_int max_two min_two max_three min_three max_four min_four
set_option linter.unusedVariables false
set_option linter.unusedSimpArgs false
mutual
noncomputable def warderref09_RightPrinc.j0 : Nat → Bool → ByteArray → List ByteArray → Option (Bool)
 | 0, _, _, _ => none
 | k + 1, x21, x363000, x363001 => if x21 = true then (some false) else (warderref09_RightPrinc.l0 k 0 x363000 x363001)
noncomputable def warderref09_RightPrinc.l0 : Nat → Int → ByteArray → List ByteArray → Option (Bool)
 | 0, _, _, _ => none
 | k + 1, x4, x363000, x363001 => if x4 < (x363001.length : Int) then (if 0 ≤ x4 then ((warderref09_word.f (rdOf ByteArray.empty x363001 x4)).bind fun t365 => (if t365 = true then (warderref09_RightPrinc.l0 k (wrap64 (x4 + 1)) x363000 x363001) else (some false))) else (none)) else (some true)
end
noncomputable def warderref09_RightPrinc.f (k : Nat) (a0_0 : ByteArray) (l0_1 : List ByteArray) : Option (Bool) := (warderref09_word.f a0_0).bind fun t363 => (if t363 = true then (if (l0_1.length : Int) < 1 then (warderref09_RightPrinc.j0 k true a0_0 l0_1) else (warderref09_RightPrinc.j0 k (decide ((l0_1.length : Int) > 8)) a0_0 l0_1)) else (warderref09_RightPrinc.j0 k true a0_0 l0_1))
set_option maxHeartbeats 8000000 in
set_option maxRecDepth 100000 in
theorem warderref09_RightPrinc.calls (k : Nat) (a0_0 : ByteArray) (A0_1 : Option Addr) (c0_1 : Nat) (l0_1 : List ByteArray) (r : Bool) (w : World) (hr0_1 : Kd.C Kd.string w A0_1 l0_1.length l0_1) (hc0_1 : l0_1.length ≤ c0_1) (h : warderref09_RightPrinc.f k a0_0 l0_1 = some r) :
  Calls Tryz.prog 27 #[.agg #[.string a0_0, .slice A0_1 l0_1.length c0_1]] w fun e w' => e = .returned (.bool r) ∧ Below w.heap.size w w' := by
 have hu32 := Tryz.underlying32
 have HR0_1 := Aside0.mk hr0_1
 have HC0_1 := Aside0.mk hc0_1
 clear hr0_1 hc0_1
 have HB := Aside0.mk (Below.refl w.heap.size w)
 have H : ((warderref09_word.f a0_0).bind fun t363 => (if t363 = true then (if (l0_1.length : Int) < 1 then (warderref09_RightPrinc.j0 k true a0_0 l0_1) else (warderref09_RightPrinc.j0 k (decide ((l0_1.length : Int) > 8)) a0_0 l0_1)) else (warderref09_RightPrinc.j0 k true a0_0 l0_1))) = some r := h
 clear h
 replace H := Option.bind_eq_some_iff.mp H
 obtain ⟨t363, A20, H⟩ := H
 replace H : (if t363 = true then (if (l0_1.length : Int) < 1 then (warderref09_RightPrinc.j0 k true a0_0 l0_1) else (warderref09_RightPrinc.j0 k (decide ((l0_1.length : Int) > 8)) a0_0 l0_1)) else (warderref09_RightPrinc.j0 k true a0_0 l0_1)) = some r := H
 have A2 := Aside0.mk A20
 clear A20
 have HC3 := Aside0.mk H
 clear H
 go_enter Tryz.func27, Tryz.ntmps27
 go_upto_region 2 with (first | ((with_reducible refine gate_dst (N := 1) rfl ?_); (try (refine gate_guard (by rfl) ?_; dsimp only)); refine box_event ?hg (N := 1) ?hd (cs := #[.string a0_0, .slice A0_1 l0_1.length c0_1]) (t := 32) ?hr ?_; (case hd => rfl); (case hg => rfl); (case hr => first | (go_simp; done) | (go_simp; rfl)); intro gb362 hg w4 hbox hb; have n0_ := Aside0.mk (below_step (by repeat (first | (with_reducible first | exact HB.out | apply below_alloc | apply pw_below_drewN | apply below_drew1) | exact HB.out)) hb); have n1_ := Aside0.mk (hbox); have n2_ := Aside0.mk ((by rw [hg]; exact (below_size (by repeat (first | (with_reducible first | exact HB.out | apply below_alloc | apply pw_below_drewN | apply below_drew1) | exact HB.out))) : w.heap.size ≤ gb362)); have n3_ := Aside0.mk ((by rw [hg]; exact (below_size (by repeat (first | (with_reducible first | exact HB.out | apply below_alloc | apply pw_below_drewN | apply below_drew1) | exact HB.out))) : w.heap.size ≤ gb362)); clear HB; have HB := n0_; have BK362 := n1_; have GW362 := n2_; have GE362 := n3_; clear n0_ n1_ n2_ n3_; clear hb hbox hg; have hcz5_0 : w4.cell? ⟨gb362, 0, none⟩ = some (.string a0_0) := (blk_cell BK362.out 0).trans rfl; have hcz5_1 : w4.cell? ⟨gb362, 1, none⟩ = some (.slice A0_1 l0_1.length c0_1) := (blk_cell BK362.out 1).trans rfl; have hfz5_0 := blk_frozen BK362.out 0; have hfz5_1 := blk_frozen BK362.out 1) | ((with_reducible refine gate_callee (f := 60) rfl ?_); refine goesL_ (some 7) rfl rfl Tryz.func60 (by kernel_rfl) rfl #[.string a0_0] rfl (by (try simp only [List.map_toArray, List.map_cons, List.map_nil]); first | done | rfl | (simp only [List.length_drop, List.length_take]; rfl)) ?_; (with_reducible refine (warderref09_word.calls a0_0 t363 _ A2.out).mono ?_); rintro e w6 ⟨rfl, hb⟩; refine ⟨_, rfl, ?_⟩; have n0_ := Aside0.mk (blk_below (g := gb362) (o := .cells #[.string a0_0, .slice A0_1 l0_1.length c0_1] 32 (0, 0)) (by (with_reducible repeat (first | refine blk_drewN ?_ _ | refine blk_drew ?_ | refine blk_alloc ?_ _)); exact BK362.out) hb); have n1_ := Aside0.mk (below_step (by repeat (first | (with_reducible first | exact HB.out | apply below_alloc | apply pw_below_drewN | apply below_drew1 | refine below_set ?_ GE362.out) | exact HB.out)) hb); clear BK362; clear HB; have BK362 := n0_; have HB := n1_; clear n0_ n1_; (try clear hb); (try clear hb2); (try clear hk); (try clear hi)))
 (try simp only [Act.put, List.setIfInBounds_toArray, List.set_cons_zero, List.set_cons_succ])
 go_cut [21] (fun v21 wc => ∃ (kq : Nat) (x21_2 : Bool), v21 = .bool x21_2 ∧ Aside0 (warderref09_RightPrinc.j0 kq x21_2 a0_0 l0_1 = some r) ∧ Aside0 (kq ≤ k) ∧ Aside0 (wc.heap[gb362]? = some (.cells #[.string a0_0, (.slice A0_1 l0_1.length c0_1)] 32 (0, 0))) ∧ Aside0 (Below w.heap.size w wc))
 case first =>
  have H := HC3.out
  clear HC3
  by_cases c7 : t363 = true
  ·subst c7
   have H1 : (if (l0_1.length : Int) < 1 then (warderref09_RightPrinc.j0 k true a0_0 l0_1) else (warderref09_RightPrinc.j0 k (decide ((l0_1.length : Int) > 8)) a0_0 l0_1)) = some r := by rw [if_pos rfl] at H; exact H
   clear H
   have H := H1
   clear H1
   by_cases c8 : (l0_1.length : Int) < 1
   ·rw [if_pos c8] at H
    have c8b0 : decide ((l0_1.length : Int) < 1) = true := decide_eq_true c8
    have c8b1 : decide (l0_1.length < 1) = true := decide_eq_true (by omega)
    clear c8
    (first | rw [c8b0] | (simp only [i64_w, i32_w]; rw [c8b0]) | skip)
    have H' := Aside0.mk H
    clear H
    have hcz9_0 : w6.cell? ⟨gb362, 0, none⟩ = some (.string a0_0) := (blk_cell BK362.out 0).trans rfl
    have hcz9_1 : w6.cell? ⟨gb362, 1, none⟩ = some (.slice A0_1 l0_1.length c0_1) := (blk_cell BK362.out 1).trans rfl
    have hfz9_0 := blk_frozen BK362.out 0
    have hfz9_1 := blk_frozen BK362.out 1
    go_wp2
    go_meet
    case rel => exact ⟨_, (true), (by first | rfl | (simp; done) | (simp [*]; done)), H', ⟨by first | omega | exact Nat.le_refl _⟩, ⟨by (with_reducible repeat (first | refine blk_drewN ?_ _ | refine blk_drew ?_ | refine blk_alloc ?_ _)); exact BK362.out⟩, ⟨by repeat (first | (with_reducible first | exact HB.out | apply below_alloc | apply pw_below_drewN | apply below_drew1 | refine below_set ?_ GE362.out) | exact HB.out)⟩⟩
   ·rw [if_neg c8] at H
    have c8b0 : decide ((l0_1.length : Int) < 1) = false := decide_eq_false c8
    have c8b1 : decide (l0_1.length < 1) = false := decide_eq_false (by omega)
    clear c8
    (first | rw [c8b0] | (simp only [i64_w, i32_w]; rw [c8b0]) | skip)
    have H' := Aside0.mk H
    clear H
    have hcz10_0 : w6.cell? ⟨gb362, 0, none⟩ = some (.string a0_0) := (blk_cell BK362.out 0).trans rfl
    have hcz10_1 : w6.cell? ⟨gb362, 1, none⟩ = some (.slice A0_1 l0_1.length c0_1) := (blk_cell BK362.out 1).trans rfl
    have hfz10_0 := blk_frozen BK362.out 0
    have hfz10_1 := blk_frozen BK362.out 1
    go_wp2
    go_meet
    case rel => exact ⟨_, (decide ((l0_1.length : Int) > 8)), (by first | rfl | (simp; done) | (simp [*]; done)), H', ⟨by first | omega | exact Nat.le_refl _⟩, ⟨by (with_reducible repeat (first | refine blk_drewN ?_ _ | refine blk_drew ?_ | refine blk_alloc ?_ _)); exact BK362.out⟩, ⟨by repeat (first | (with_reducible first | exact HB.out | apply below_alloc | apply pw_below_drewN | apply below_drew1 | refine below_set ?_ GE362.out) | exact HB.out)⟩⟩
  ·replace c7 := Bool.eq_false_iff.mpr c7
   subst c7
   have H1 : (warderref09_RightPrinc.j0 k true a0_0 l0_1) = some r := by rw [if_neg (show ¬ (false = true) by decide)] at H; exact H
   clear H
   have H := H1
   clear H1
   have H' := Aside0.mk H
   clear H
   go_wp2
   go_meet
   case rel => exact ⟨_, (true), (by first | rfl | (simp; done) | (simp [*]; done)), H', ⟨by first | omega | exact Nat.le_refl _⟩, ⟨by (with_reducible repeat (first | refine blk_drewN ?_ _ | refine blk_drew ?_ | refine blk_alloc ?_ _)); exact BK362.out⟩, ⟨by repeat (first | (with_reducible first | exact HB.out | apply below_alloc | apply pw_below_drewN | apply below_drew1 | refine below_set ?_ GE362.out) | exact HB.out)⟩⟩
 case rest =>
  clear HC3
  try clear c2
  try clear p2
  try clear c6
  try clear c7
  try clear c8
  try clear c8b0
  try clear c8b1
  try clear hcz10_0
  try clear hcz10_1
  try clear hcz5_0
  try clear hcz5_1
  try clear hcz9_0
  try clear hcz9_1
  try clear hfz10_0
  try clear hfz10_1
  try clear hfz5_0
  try clear hfz5_1
  try clear hfz9_0
  try clear hfz9_1
  obtain ⟨kq, x21_2, rfl, HA, HJ2, BK362, HB⟩ := hcut
  cases kq with
  | zero => exact absurd HA.out (by simp [warderref09_RightPrinc.j0])
  | succ kj2 =>
   have H := HA.out
   clear HA
   simp only [warderref09_RightPrinc.j0] at H
   by_cases c11 : x21_2 = true
   ·subst c11
    have H1 : (some false) = some r := by rw [if_pos rfl] at H; exact H
    clear H
    have H := H1
    clear H1
    obtain rfl := Option.some.inj H
    go_wp2
    go_ret
    exact ⟨by first | rfl | (simp [errW_none, errW_some] <;> rfl) | (simp [*, errW_none, errW_some] <;> rfl), by repeat (first | (with_reducible first | exact HB.out | apply below_alloc | apply pw_below_drewN | apply below_drew1 | refine below_set ?_ GE362.out) | exact HB.out)⟩
   ·replace c11 := Bool.eq_false_iff.mpr c11
    subst c11
    have H1 : (warderref09_RightPrinc.l0 kj2 0 a0_0 l0_1) = some r := by rw [if_neg (show ¬ (false = true) by decide)] at H; exact H
    clear H
    have H := H1
    clear H1
    have H' := Aside0.mk H
    clear H
    go_wp2
    go_loopg [4] kj2 (fun kq v4 w' => ∃ (x4_2 : Int), v4 = .int .i64 x4_2 ∧ Aside0 (warderref09_RightPrinc.l0 kq x4_2 a0_0 l0_1 = some r) ∧ Aside0 (kq ≤ kj2) ∧ Aside0 (w'.heap[gb362]? = some (.cells #[.string a0_0, (.slice A0_1 l0_1.length c0_1)] 32 (0, 0))) ∧ Aside0 (Below w.heap.size w w'))
    case atStart => exact ⟨(0), (by first | rfl | (simp; done) | (simp [*]; done)), H', ⟨Nat.le_refl _⟩, ⟨by (with_reducible repeat (first | refine blk_drewN ?_ _ | refine blk_drew ?_ | refine blk_alloc ?_ _)); exact BK362.out⟩, ⟨by repeat (first | (with_reducible first | exact HB.out | apply below_alloc | apply pw_below_drewN | apply below_drew1 | refine below_set ?_ GE362.out) | exact HB.out)⟩⟩
    case round =>
     clear H'
     try clear c1
     try clear c2
     try clear p2
     try clear c6
     try clear c7
     try clear c8
     try clear c8b0
     try clear c8b1
     try clear c11
     try clear hcz10_0
     try clear hcz10_1
     try clear hcz5_0
     try clear hcz5_1
     try clear hcz9_0
     try clear hcz9_1
     try clear hfz10_0
     try clear hfz10_1
     try clear hfz5_0
     try clear hfz5_1
     try clear hfz9_0
     try clear hfz9_1
     try clear p2
     obtain ⟨x4_2, rfl, HA, HK2, BK362, HB⟩ := hrel
     cases gk with
     | zero => exact absurd HA.out (by simp [warderref09_RightPrinc.l0])
     | succ k2 =>
      have H := HA.out
      clear HA
      simp only [warderref09_RightPrinc.l0] at H
      by_cases c12 : x4_2 < (l0_1.length : Int)
      ·rw [if_pos c12] at H
       have c12b0 : decide (x4_2 < (l0_1.length : Int)) = true := decide_eq_true c12
       clear c12
       by_cases c13 : 0 ≤ x4_2
       ·rw [if_pos c13] at H
        have c13b0 : decide (0 ≤ x4_2) = true := decide_eq_true c13
        clear c13
        replace H := Option.bind_eq_some_iff.mp H
        obtain ⟨t365, A140, H⟩ := H
        replace H : (if t365 = true then (warderref09_RightPrinc.l0 k2 (wrap64 (x4_2 + 1)) a0_0 l0_1) else (some false)) = some r := H
        have A14 := Aside0.mk A140
        clear A140
        by_cases c15 : t365 = true
        ·subst c15
         have H1 : (warderref09_RightPrinc.l0 k2 (wrap64 (x4_2 + 1)) a0_0 l0_1) = some r := by rw [if_pos rfl] at H; exact H
         clear H
         have H := H1
         clear H1
         have H' := Aside0.mk H
         clear H
         have hcz16_0 : wr.cell? ⟨gb362, 0, none⟩ = some (.string a0_0) := (blk_cell BK362.out 0).trans rfl
         have hcz16_1 : wr.cell? ⟨gb362, 1, none⟩ = some (.slice A0_1 l0_1.length c0_1) := (blk_cell BK362.out 1).trans rfl
         have hfz16_0 := blk_frozen BK362.out 0
         have hfz16_1 := blk_frozen BK362.out 1
         have p364 : 0 ≤ (x4_2 : Int) := of_decide_eq_true (by first | (with_reducible assumption) | assumption)
         have q364 : x4_2 < (l0_1.length : Int) := of_decide_eq_true (by first | (with_reducible assumption) | assumption)
         obtain ⟨ad364, e364, hx364_0⟩ := Kd.at_string HR0_1.out x4_2 p364 q364
         cases e364
         replace hx364_0 := (HB.out.cell (World.block_lt_of_cell? w _ hx364_0)).trans hx364_0
         replace p364 := eq_true p364
         replace q364 := eq_true q364
         go_wp2_with (first | ((with_reducible refine gate_callee (f := 60) rfl ?_); refine goesL_ (some 34) rfl rfl Tryz.func60 (by kernel_rfl) rfl #[.string (rdOf ByteArray.empty l0_1 x4_2)] rfl (by (try simp only [List.map_toArray, List.map_cons, List.map_nil]); first | done | rfl | (simp only [List.length_drop, List.length_take]; rfl)) ?_; (with_reducible refine (warderref09_word.calls (rdOf ByteArray.empty l0_1 x4_2) true _ A14.out).mono ?_); rintro e w17 ⟨rfl, hb⟩; refine ⟨_, rfl, ?_⟩; have n0_ := Aside0.mk (blk_below (g := gb362) (o := .cells #[.string a0_0, .slice (some ad364) l0_1.length c0_1] 32 (0, 0)) (by (with_reducible repeat (first | refine blk_drewN ?_ _ | refine blk_drew ?_ | refine blk_alloc ?_ _)); exact BK362.out) hb); have n1_ := Aside0.mk (below_step (by repeat (first | (with_reducible first | exact HB.out | apply below_alloc | apply pw_below_drewN | apply below_drew1 | refine below_set ?_ GE362.out) | exact HB.out)) hb); clear BK362; clear HB; have BK362 := n0_; have HB := n1_; clear n0_ n1_; (try clear hb); (try clear hb2); (try clear hk); (try clear hi)))
         go_roundg k2
         case measure => have := HJ2.out; have := HK2.out; omega
         case rel => exact ⟨(wrap64 (x4_2 + 1)), (by first | rfl | (simp; done) | (simp [*]; done)), H', ⟨by have := HJ2.out; have := HK2.out; omega⟩, ⟨by (with_reducible repeat (first | refine blk_drewN ?_ _ | refine blk_drew ?_ | refine blk_alloc ?_ _)); exact BK362.out⟩, ⟨by repeat (first | (with_reducible first | exact HB.out | apply below_alloc | apply pw_below_drewN | apply below_drew1 | refine below_set ?_ GE362.out) | exact HB.out)⟩⟩
        ·replace c15 := Bool.eq_false_iff.mpr c15
         subst c15
         have H1 : (some false) = some r := by rw [if_neg (show ¬ (false = true) by decide)] at H; exact H
         clear H
         have H := H1
         clear H1
         obtain rfl := Option.some.inj H
         have hcz18_0 : wr.cell? ⟨gb362, 0, none⟩ = some (.string a0_0) := (blk_cell BK362.out 0).trans rfl
         have hcz18_1 : wr.cell? ⟨gb362, 1, none⟩ = some (.slice A0_1 l0_1.length c0_1) := (blk_cell BK362.out 1).trans rfl
         have hfz18_0 := blk_frozen BK362.out 0
         have hfz18_1 := blk_frozen BK362.out 1
         have p364 : 0 ≤ (x4_2 : Int) := of_decide_eq_true (by first | (with_reducible assumption) | assumption)
         have q364 : x4_2 < (l0_1.length : Int) := of_decide_eq_true (by first | (with_reducible assumption) | assumption)
         obtain ⟨ad364, e364, hx364_0⟩ := Kd.at_string HR0_1.out x4_2 p364 q364
         cases e364
         replace hx364_0 := (HB.out.cell (World.block_lt_of_cell? w _ hx364_0)).trans hx364_0
         replace p364 := eq_true p364
         replace q364 := eq_true q364
         go_wp2_with (first | ((with_reducible refine gate_callee (f := 60) rfl ?_); refine goesL_ (some 34) rfl rfl Tryz.func60 (by kernel_rfl) rfl #[.string (rdOf ByteArray.empty l0_1 x4_2)] rfl (by (try simp only [List.map_toArray, List.map_cons, List.map_nil]); first | done | rfl | (simp only [List.length_drop, List.length_take]; rfl)) ?_; (with_reducible refine (warderref09_word.calls (rdOf ByteArray.empty l0_1 x4_2) false _ A14.out).mono ?_); rintro e w19 ⟨rfl, hb⟩; refine ⟨_, rfl, ?_⟩; have n0_ := Aside0.mk (blk_below (g := gb362) (o := .cells #[.string a0_0, .slice (some ad364) l0_1.length c0_1] 32 (0, 0)) (by (with_reducible repeat (first | refine blk_drewN ?_ _ | refine blk_drew ?_ | refine blk_alloc ?_ _)); exact BK362.out) hb); have n1_ := Aside0.mk (below_step (by repeat (first | (with_reducible first | exact HB.out | apply below_alloc | apply pw_below_drewN | apply below_drew1 | refine below_set ?_ GE362.out) | exact HB.out)) hb); clear BK362; clear HB; have BK362 := n0_; have HB := n1_; clear n0_ n1_; (try clear hb); (try clear hb2); (try clear hk); (try clear hi)))
         go_ret
         exact ⟨by first | rfl | (simp [errW_none, errW_some] <;> rfl) | (simp [*, errW_none, errW_some] <;> rfl), by repeat (first | (with_reducible first | exact HB.out | apply below_alloc | apply pw_below_drewN | apply below_drew1 | refine below_set ?_ GE362.out) | exact HB.out)⟩
       ·rw [if_neg c13] at H
        exact absurd H (by simp)
      ·rw [if_neg c12] at H
       have c12b0 : decide (x4_2 < (l0_1.length : Int)) = false := decide_eq_false c12
       clear c12
       obtain rfl := Option.some.inj H
       have hcz20_0 : wr.cell? ⟨gb362, 0, none⟩ = some (.string a0_0) := (blk_cell BK362.out 0).trans rfl
       have hcz20_1 : wr.cell? ⟨gb362, 1, none⟩ = some (.slice A0_1 l0_1.length c0_1) := (blk_cell BK362.out 1).trans rfl
       have hfz20_0 := blk_frozen BK362.out 0
       have hfz20_1 := blk_frozen BK362.out 1
       go_wp2
       go_ret
       exact ⟨by first | rfl | (simp [errW_none, errW_some] <;> rfl) | (simp [*, errW_none, errW_some] <;> rfl), by repeat (first | (with_reducible first | exact HB.out | apply below_alloc | apply pw_below_drewN | apply below_drew1 | refine below_set ?_ GE362.out) | exact HB.out)⟩
noncomputable def warderref11_Handle.f (a0 : Int) : Option (Bool) := if a0 ≥ 0 then (some (decide (a0 < 281474976710656))) else (some false)
set_option maxHeartbeats 8000000 in
set_option maxRecDepth 100000 in
theorem warderref11_Handle.calls (a0 : Int) (r : Bool) (w : World) (h : warderref11_Handle.f a0 = some r) :
  Calls Tryz.prog 61 #[.int .i64 a0] w fun e w' => e = .returned (.bool r) ∧ Drawn0 w w' := by
 have H : (if a0 ≥ 0 then (some (decide (a0 < 281474976710656))) else (some false)) = some r := h
 clear h
 by_cases c2 : a0 ≥ 0
 ·rw [if_pos c2] at H
  have c2b0 : decide (0 ≤ a0) = true := decide_eq_true c2
  clear c2
  obtain rfl := Option.some.inj H
  go_enter Tryz.func61, Tryz.ntmps61
  go_wp2
  go_ret
  exact ⟨by first | rfl | (simp; done) | (simp [*]; done), by repeat (first | exact Drawn0.refl _ | apply Drawn0.step)⟩
 ·rw [if_neg c2] at H
  have c2b0 : decide (0 ≤ a0) = false := decide_eq_false c2
  clear c2
  obtain rfl := Option.some.inj H
  go_enter Tryz.func61, Tryz.ntmps61
  go_wp2
  go_ret
  exact ⟨by first | rfl | (simp; done) | (simp [*]; done), by repeat (first | exact Drawn0.refl _ | apply Drawn0.step)⟩
end Go.Proofs.YtncanijjnhkgbaaGreatDoor.PMsgsPut
namespace Go.Proofs.YtncanijjnhkgbaaGreatDoor.PMsgsPut
open Go.RowKit Go.Proofs.YtncanijjnhkgbaaGreatDoorW.PrintWords Go.Proofs.YtncanijjnhkgbaaGreatDoorW.PrintLast Go.Proofs.YtncanijjnhkgbaaGreatDoorW.PrintMore
attribute [local go_sem] max2_int min2_int max_two min_two max_three min_three max_four min_four
set_option linter.unusedVariables false
set_option linter.unusedSimpArgs false
noncomputable def warderref17_RightTicket.f (k : Nat) (a0_0 : ByteArray) (l0_1 : List ByteArray) (a0_2 : Int) : Option (Bool) := (warderref09_RightPrinc.f k a0_0 l0_1).bind fun t367 => (if t367 = true then ((warderref11_Handle.f a0_2).bind fun t368 => (some t368)) else (some false))
set_option maxHeartbeats 8000000 in
set_option maxRecDepth 100000 in
theorem warderref17_RightTicket.calls (k : Nat) (a0_0 : ByteArray) (A0_1 : Option Addr) (c0_1 : Nat) (l0_1 : List ByteArray) (a0_2 : Int) (r : Bool) (w : World) (hr0_1 : Kd.C Kd.string w A0_1 l0_1.length l0_1) (hc0_1 : l0_1.length ≤ c0_1) (h : warderref17_RightTicket.f k a0_0 l0_1 a0_2 = some r) :
  Calls Tryz.prog 28 #[.agg #[.string a0_0, .slice A0_1 l0_1.length c0_1, .int .i64 a0_2]] w fun e w' => e = .returned (.bool r) ∧ Below w.heap.size w w' := by
 have hu34 := Tryz.underlying34
 have hu32 := Tryz.underlying32
 have HR0_1 := Aside0.mk hr0_1
 have HC0_1 := Aside0.mk hc0_1
 clear hr0_1 hc0_1
 have HB := Aside0.mk (Below.refl w.heap.size w)
 have H : ((warderref09_RightPrinc.f k a0_0 l0_1).bind fun t367 => (if t367 = true then ((warderref11_Handle.f a0_2).bind fun t368 => (some t368)) else (some false))) = some r := h
 clear h
 replace H := Option.bind_eq_some_iff.mp H
 obtain ⟨t367, A20, H⟩ := H
 replace H : (if t367 = true then ((warderref11_Handle.f a0_2).bind fun t368 => (some t368)) else (some false)) = some r := H
 have A2 := Aside0.mk A20
 clear A20
 by_cases c3 : t367 = true
 ·subst c3
  have H1 : ((warderref11_Handle.f a0_2).bind fun t368 => (some t368)) = some r := by rw [if_pos rfl] at H; exact H
  clear H
  have H := H1
  clear H1
  replace H := Option.bind_eq_some_iff.mp H
  obtain ⟨t368, A40, H⟩ := H
  replace H : (some t368) = some r := H
  have A4 := Aside0.mk A40
  clear A40
  obtain rfl := Option.some.inj H
  go_enter Tryz.func28, Tryz.ntmps28
  go_wp2_with (first | ((with_reducible refine gate_dst (N := 1) rfl ?_); refine box_event ?hg (N := 1) ?hd (cs := #[.string a0_0, .slice A0_1 l0_1.length c0_1, .int .i64 a0_2]) (t := 34) ?hr ?_; (case hd => rfl); (case hg => rfl); (case hr => first | (go_simp; done) | (go_simp; rfl)); intro gb366 hg w5 hbox hb; have n0_ := Aside0.mk (below_step (by repeat (first | (with_reducible first | exact HB.out | apply below_alloc | apply pw_below_drewN | apply below_drew1) | exact HB.out)) hb); have n1_ := Aside0.mk (hbox); have n2_ := Aside0.mk ((by rw [hg]; exact (below_size (by repeat (first | (with_reducible first | exact HB.out | apply below_alloc | apply pw_below_drewN | apply below_drew1) | exact HB.out))) : w.heap.size ≤ gb366)); have n3_ := Aside0.mk ((by rw [hg]; exact (below_size (by repeat (first | (with_reducible first | exact HB.out | apply below_alloc | apply pw_below_drewN | apply below_drew1) | exact HB.out))) : w.heap.size ≤ gb366)); clear HB; have HB := n0_; have BK366 := n1_; have GW366 := n2_; have GE366 := n3_; clear n0_ n1_ n2_ n3_; clear hb hbox hg; have hcz6_0 : w5.cell? ⟨gb366, 0, none⟩ = some (.string a0_0) := (blk_cell BK366.out 0).trans rfl; have hcz6_1 : w5.cell? ⟨gb366, 1, none⟩ = some (.slice A0_1 l0_1.length c0_1) := (blk_cell BK366.out 1).trans rfl; have hcz6_2 : w5.cell? ⟨gb366, 2, none⟩ = some (.int .i64 a0_2) := (blk_cell BK366.out 2).trans rfl; have hfz6_0 := blk_frozen BK366.out 0; have hfz6_1 := blk_frozen BK366.out 1; have hfz6_2 := blk_frozen BK366.out 2) | ((with_reducible refine gate_callee (f := 27) rfl ?_); refine goesL_ (some 6) rfl rfl Tryz.func27 (by kernel_rfl) rfl #[.agg #[.string a0_0, .slice A0_1 l0_1.length c0_1]] rfl (by (try simp only [List.map_toArray, List.map_cons, List.map_nil]); first | done | rfl | (simp only [List.length_drop, List.length_take]; rfl)) ?_; (with_reducible refine (warderref09_RightPrinc.calls k a0_0 _ _ l0_1 true _ ?side1 ?side2 A2.out).mono ?_); (case side1 => repeat (first | exact (Kd.C_below HR0_1.out HB.out) | (with_reducible refine Kd.C_alloc ?_ _) | (with_reducible refine Kd.C_drewN ?_ _) | (with_reducible refine Kd.C_drew ?_))); (case side2 => exact HC0_1.out); rintro e w7 ⟨rfl, hb⟩; refine ⟨_, rfl, ?_⟩; have n0_ := Aside0.mk (blk_below (g := gb366) (o := .cells #[.string a0_0, .slice A0_1 l0_1.length c0_1, .int .i64 a0_2] 34 (0, 0)) (by (with_reducible repeat (first | refine blk_drewN ?_ _ | refine blk_drew ?_ | refine blk_alloc ?_ _)); exact BK366.out) hb); have n1_ := Aside0.mk (below_step (by repeat (first | (with_reducible first | exact HB.out | apply below_alloc | apply pw_below_drewN | apply below_drew1 | refine below_set ?_ GE366.out) | exact HB.out)) hb); clear BK366; clear HB; have BK366 := n0_; have HB := n1_; clear n0_ n1_; (try clear hb); (try clear hb2); (try clear hk); (try clear hi); have hcz8_0 : w7.cell? ⟨gb366, 0, none⟩ = some (.string a0_0) := (blk_cell BK366.out 0).trans rfl; have hcz8_1 : w7.cell? ⟨gb366, 1, none⟩ = some (.slice A0_1 l0_1.length c0_1) := (blk_cell BK366.out 1).trans rfl; have hcz8_2 : w7.cell? ⟨gb366, 2, none⟩ = some (.int .i64 a0_2) := (blk_cell BK366.out 2).trans rfl; have hfz8_0 := blk_frozen BK366.out 0; have hfz8_1 := blk_frozen BK366.out 1; have hfz8_2 := blk_frozen BK366.out 2) | (go_at_call 61; (with_reducible refine (warderref11_Handle.calls a0_2 t368 _ A4.out).mono ?_); rintro e w' ⟨rfl, ⟨nd, rfl⟩⟩))
  go_ret
  exact ⟨by first | rfl | (simp [errW_none, errW_some] <;> rfl) | (simp [*, errW_none, errW_some] <;> rfl), by repeat (first | (with_reducible first | exact HB.out | apply below_alloc | apply pw_below_drewN | apply below_drew1 | refine below_set ?_ GE366.out) | exact HB.out)⟩
 ·replace c3 := Bool.eq_false_iff.mpr c3
  subst c3
  have H1 : (some false) = some r := by rw [if_neg (show ¬ (false = true) by decide)] at H; exact H
  clear H
  have H := H1
  clear H1
  obtain rfl := Option.some.inj H
  go_enter Tryz.func28, Tryz.ntmps28
  go_wp2_with (first | ((with_reducible refine gate_dst (N := 1) rfl ?_); refine box_event ?hg (N := 1) ?hd (cs := #[.string a0_0, .slice A0_1 l0_1.length c0_1, .int .i64 a0_2]) (t := 34) ?hr ?_; (case hd => rfl); (case hg => rfl); (case hr => first | (go_simp; done) | (go_simp; rfl)); intro gb366 hg w9 hbox hb; have n0_ := Aside0.mk (below_step (by repeat (first | (with_reducible first | exact HB.out | apply below_alloc | apply pw_below_drewN | apply below_drew1) | exact HB.out)) hb); have n1_ := Aside0.mk (hbox); have n2_ := Aside0.mk ((by rw [hg]; exact (below_size (by repeat (first | (with_reducible first | exact HB.out | apply below_alloc | apply pw_below_drewN | apply below_drew1) | exact HB.out))) : w.heap.size ≤ gb366)); have n3_ := Aside0.mk ((by rw [hg]; exact (below_size (by repeat (first | (with_reducible first | exact HB.out | apply below_alloc | apply pw_below_drewN | apply below_drew1) | exact HB.out))) : w.heap.size ≤ gb366)); clear HB; have HB := n0_; have BK366 := n1_; have GW366 := n2_; have GE366 := n3_; clear n0_ n1_ n2_ n3_; clear hb hbox hg; have hcz10_0 : w9.cell? ⟨gb366, 0, none⟩ = some (.string a0_0) := (blk_cell BK366.out 0).trans rfl; have hcz10_1 : w9.cell? ⟨gb366, 1, none⟩ = some (.slice A0_1 l0_1.length c0_1) := (blk_cell BK366.out 1).trans rfl; have hcz10_2 : w9.cell? ⟨gb366, 2, none⟩ = some (.int .i64 a0_2) := (blk_cell BK366.out 2).trans rfl; have hfz10_0 := blk_frozen BK366.out 0; have hfz10_1 := blk_frozen BK366.out 1; have hfz10_2 := blk_frozen BK366.out 2) | ((with_reducible refine gate_callee (f := 27) rfl ?_); refine goesL_ (some 6) rfl rfl Tryz.func27 (by kernel_rfl) rfl #[.agg #[.string a0_0, .slice A0_1 l0_1.length c0_1]] rfl (by (try simp only [List.map_toArray, List.map_cons, List.map_nil]); first | done | rfl | (simp only [List.length_drop, List.length_take]; rfl)) ?_; (with_reducible refine (warderref09_RightPrinc.calls k a0_0 _ _ l0_1 false _ ?side1 ?side2 A2.out).mono ?_); (case side1 => repeat (first | exact (Kd.C_below HR0_1.out HB.out) | (with_reducible refine Kd.C_alloc ?_ _) | (with_reducible refine Kd.C_drewN ?_ _) | (with_reducible refine Kd.C_drew ?_))); (case side2 => exact HC0_1.out); rintro e w11 ⟨rfl, hb⟩; refine ⟨_, rfl, ?_⟩; have n0_ := Aside0.mk (blk_below (g := gb366) (o := .cells #[.string a0_0, .slice A0_1 l0_1.length c0_1, .int .i64 a0_2] 34 (0, 0)) (by (with_reducible repeat (first | refine blk_drewN ?_ _ | refine blk_drew ?_ | refine blk_alloc ?_ _)); exact BK366.out) hb); have n1_ := Aside0.mk (below_step (by repeat (first | (with_reducible first | exact HB.out | apply below_alloc | apply pw_below_drewN | apply below_drew1 | refine below_set ?_ GE366.out) | exact HB.out)) hb); clear BK366; clear HB; have BK366 := n0_; have HB := n1_; clear n0_ n1_; (try clear hb); (try clear hb2); (try clear hk); (try clear hi)))
  go_ret
  exact ⟨by first | rfl | (simp [errW_none, errW_some] <;> rfl) | (simp [*, errW_none, errW_some] <;> rfl), by repeat (first | (with_reducible first | exact HB.out | apply below_alloc | apply pw_below_drewN | apply below_drew1 | refine below_set ?_ GE366.out) | exact HB.out)⟩
end Go.Proofs.YtncanijjnhkgbaaGreatDoor.PMsgsPut
namespace Go.Proofs.YtncanijjnhkgbaaGreatDoor.PMsgsPut
open Go.RowKit Go.Proofs.YtncanijjnhkgbaaGreatDoorW.PrintWords Go.Proofs.YtncanijjnhkgbaaGreatDoorW.PrintLast Go.Proofs.YtncanijjnhkgbaaGreatDoorW.PrintMore
def code (c : Int) : Int := if c = 98 then 1 else if c = 116 then 2 else if c = 111 then 3 else if c = 104 then 4 else if c = 112 then 5 else if c = 107 then 6 else 0
def condO (c : Int) (v : S36) : Bool :=
 if c = 98 then decide (v.f0 = 0) || decide (v.f0 = 1) else if c = 116 then decide (-631152000 ≤ v.f0 ∧ v.f0 ≤ 253402300799) else if c = 111 then decide (v.f1.length ≤ 8192) else if c = 104 then decide (0 ≤ v.f0 ∧ v.f0 < 281474976710656)
 else if c = 112 then princOk v.f2.f0 v.f2.f1 else if c = 107 then princOk v.f3.f0.f0 v.f3.f0.f1 && decide (0 ≤ v.f3.f1 ∧ v.f3.f1 < 281474976710656) else true
theorem blankV (v : S36) (c but : Int) (hc : but = 105 ∧ c ≠ 111 ∧ c ≠ 112 ∧ c ≠ 107 ∨ but = c ∧ (c = 111 ∨ c = 112 ∨ c = 107)) : (blankB v.f0 v.f1 v.f2.f0 v.f2.f1 v.f3.f0.f0 v.f3.f0.f1 v.f3.f1 but = true) ↔ v = bareV c v := by
 constructor
 ·intro h
  have hq := blank_eq h
  unfold bareV noP
  rcases hc with ⟨rfl, h1, h2, h3⟩ | ⟨rfl, rfl | rfl | rfl⟩
  ·simp only [show ¬ (105 : Int) = 111 by decide, show ¬ (105 : Int) = 112 by decide, show ¬ (105 : Int) = 107 by decide, or_false, or_true, true_and] at hq
   rw [if_neg h1, if_neg h2, if_neg h3]
   exact val_ext rfl hq.1 hq.2.1.1 hq.2.1.2 hq.2.2.1 hq.2.2.2.1 hq.2.2.2.2
  ·simp only [show ¬ (111 : Int) = 105 by decide, show ¬ (111 : Int) = 112 by decide, show ¬ (111 : Int) = 107 by decide, or_false, or_true, true_and] at hq
   rw [if_pos rfl]
   exact val_ext hq.1 rfl hq.2.1.1 hq.2.1.2 hq.2.2.1 hq.2.2.2.1 hq.2.2.2.2
  ·simp only [show ¬ (112 : Int) = 105 by decide, show ¬ (112 : Int) = 111 by decide, show ¬ (112 : Int) = 107 by decide, or_false, or_true, true_and] at hq
   rw [if_neg (by decide), if_pos rfl]
   exact val_ext hq.1 hq.2.1 rfl rfl hq.2.2.1 hq.2.2.2.1 hq.2.2.2.2
  ·simp only [show ¬ (107 : Int) = 105 by decide, show ¬ (107 : Int) = 111 by decide, show ¬ (107 : Int) = 112 by decide, or_false, or_true, and_true] at hq
   rw [if_neg (by decide), if_neg (by decide), if_pos rfl]
   exact val_ext hq.1 hq.2.1 hq.2.2.1 hq.2.2.2 rfl rfl rfl
 ·intro h
  rw [h]
  unfold bareV noP
  rcases hc with ⟨rfl, h1, h2, h3⟩ | ⟨rfl, rfl | rfl | rfl⟩
  ·rw [if_neg h1, if_neg h2, if_neg h3]
   simp [blankB, princB]
   decide
  ·rw [if_pos rfl]
   simp [blankB, princB]
   decide
  ·rw [if_neg (by decide), if_pos rfl]
   simp [blankB, princB]
   decide
  ·rw [if_neg (by decide), if_neg (by decide), if_pos rfl]
   simp [blankB, princB]
   try decide
open Classical in
theorem ok_eq (c : Int) (v : S36) (hv : Small v) : partOk (code c) v = (decide (v = bareV c v) && condO c v) := by
 have hs := state_some (code c) v hv
 unfold partOk
 generalize partQ (code c) v = q at hs ⊢
 unfold stV stateO code at hs
 unfold condO
 have hb := blankV v c 105
 by_cases h1 : c = 98
 ·subst h1
  have hb := hb (.inl ⟨rfl, by decide, by decide, by decide⟩)
  rw [if_pos rfl] at hs ⊢
  rw [if_neg (by decide), if_pos rfl] at hs
  rw [← Option.some.inj hs, Bool.eq_iff_iff]
  simp only [Bool.and_eq_true, decide_eq_true_eq, hb]
 rw [if_neg h1] at hs ⊢
 by_cases h2 : c = 116
 ·subst h2
  have hb := hb (.inl ⟨rfl, by decide, by decide, by decide⟩)
  rw [if_pos rfl] at hs ⊢
  rw [if_neg (by decide), if_neg (by decide), if_pos rfl] at hs
  by_cases hr : -631152000 ≤ v.f0 ∧ v.f0 ≤ 253402300799
  ·rw [if_pos hr] at hs
   rw [← Option.some.inj hs, Bool.eq_iff_iff]
   simp only [Bool.and_eq_true, decide_eq_true_eq, hb, hr, and_true]
  ·rw [if_neg hr] at hs
   rw [← Option.some.inj hs, decide_eq_false hr, Bool.and_false]
 rw [if_neg h2] at hs ⊢
 by_cases h3 : c = 111
 ·subst h3
  have hb := blankV v 111 111 (.inr ⟨rfl, .inl rfl⟩)
  rw [if_pos rfl] at hs ⊢
  rw [if_neg (by decide), if_neg (by decide), if_neg (by decide), if_pos rfl, if_pos hv.bytes] at hs
  rw [← Option.some.inj hs, Bool.eq_iff_iff]
  simp only [Bool.and_eq_true, decide_eq_true_eq, hb]
 rw [if_neg h3] at hs ⊢
 by_cases h4 : c = 104
 ·subst h4
  have hb := hb (.inl ⟨rfl, by decide, by decide, by decide⟩)
  rw [if_pos rfl] at hs ⊢
  rw [if_neg (by decide), if_neg (by decide), if_neg (by decide), if_neg (by decide), if_pos rfl] at hs
  by_cases hr : 0 ≤ v.f0 ∧ v.f0 < 281474976710656
  ·rw [if_pos hr] at hs
   rw [← Option.some.inj hs, Bool.eq_iff_iff]
   simp only [Bool.and_eq_true, decide_eq_true_eq, hb, hr, and_true]
  ·rw [if_neg hr] at hs
   rw [← Option.some.inj hs, decide_eq_false hr, Bool.and_false]
 rw [if_neg h4] at hs ⊢
 by_cases h5 : c = 112
 ·subst h5
  have hb := blankV v 112 112 (.inr ⟨rfl, .inr (.inl rfl)⟩)
  rw [if_pos rfl] at hs ⊢
  rw [if_neg (by decide), if_neg (by decide), if_neg (by decide), if_neg (by decide), if_neg (by decide), if_pos rfl] at hs
  unfold princO at hs
  rw [if_pos ⟨hv.princ.len, hv.princ.size, hv.princ.all⟩] at hs
  by_cases hp : princOk v.f2.f0 v.f2.f1 = true
  ·rw [if_pos hp] at hs
   rw [hp, ← Option.some.inj hs, Bool.eq_iff_iff]
   simp only [Bool.and_eq_true, decide_eq_true_eq, hb, and_true]
   simp
  ·rw [if_neg hp] at hs
   rw [← Option.some.inj hs, Bool.eq_false_iff.2 hp, Bool.and_false]
   rfl
 rw [if_neg h5] at hs ⊢
 by_cases h6 : c = 107
 ·subst h6
  have hb := blankV v 107 107 (.inr ⟨rfl, .inr (.inr rfl)⟩)
  rw [if_pos rfl] at hs ⊢
  rw [if_neg (by decide), if_neg (by decide), if_neg (by decide), if_neg (by decide), if_neg (by decide), if_neg (by decide)] at hs
  unfold ticketO at hs
  rw [if_pos ⟨hv.server.len, hv.server.size, hv.server.all⟩] at hs
  by_cases hp : princOk v.f3.f0.f0 v.f3.f0.f1 = true ∧ 0 ≤ v.f3.f1 ∧ v.f3.f1 < 281474976710656
  ·rw [if_pos hp] at hs
   rw [← Option.some.inj hs, Bool.eq_iff_iff]
   simp only [Bool.and_eq_true, decide_eq_true_eq, hb, hp, and_true]
   simp
  ·rw [if_neg hp] at hs
   rw [← Option.some.inj hs]
   show false = _
   symm
   rw [Bool.eq_false_iff]
   intro h
   simp only [Bool.and_eq_true, decide_eq_true_eq] at h
   exact hp h.2
 rw [if_neg h6] at hs ⊢
 have hb := hb (.inl ⟨rfl, h3, h5, h6⟩)
 rw [if_pos rfl, if_pos ⟨hv.lo, hv.hi⟩] at hs
 rw [← Option.some.inj hs, Bool.eq_iff_iff]
 simp only [Bool.and_eq_true, decide_eq_true_eq, hb, and_true]
theorem word_some (s : ByteArray) (h : s.size ≤ 1048576) : warderref09_word.f s = some (wordB s) := by
 unfold warderref09_word.f
 rw [if_pos h]
theorem rightPrinc_loop (r : ByteArray) (l : List ByteArray) (hm : l.length ≤ 1048576) (ha : ∀ s ∈ l, s.size ≤ 1048576) :
  ∀ (e i : Nat), i + e = l.length → (∀ q (h1 : q < i) (h2 : q < l.length), wordB l[q] = true) → Ev (fun k => warderref09_RightPrinc.l0 k (i : Int) r l) (l.all wordB)
 | 0, i, hi, hq => by
  refine Ev.step ?_
  simp only [warderref09_RightPrinc.l0]
  refine Ev.neg (by omega) (Ev.pure ?_)
  congr 1
  symm
  rw [List.all_eq_true]
  intro s hs
  obtain ⟨q, h, rfl⟩ := List.mem_iff_getElem.1 hs
  exact hq q (by omega) h
 | e + 1, i, hi, hq => by
  refine Ev.step ?_
  simp only [warderref09_RightPrinc.l0]
  refine Ev.pos (by omega) (Ev.pos (by omega) ?_)
  rw [rd_str l i (by omega)]
  refine Ev.bindP (word_some _ (ha _ (List.getElem_mem _))) ?_
  by_cases h : wordB (l[i]'(by omega)) = true
  ·refine Ev.pos h ?_
   have e2 : wrap64 ((i : Int) + 1) = ((i + 1 : Nat) : Int) := by rw [w64 (by omega) (by omega)]; omega
   rw [e2]
   exact rightPrinc_loop r l hm ha e (i + 1) (by omega) (fun q h1 h2 => by
    by_cases hj : q = i
    ·subst hj; exact h
    ·exact hq q (by omega) h2)
  ·refine Ev.neg h (Ev.pure ?_)
   congr 1
   symm
   rw [Bool.eq_false_iff]
   intro hx
   exact h (List.all_eq_true.1 hx _ (List.getElem_mem _))
theorem rightPrinc_some (r : ByteArray) (l : List ByteArray) (hs : SmallP r l) : Ev (fun k => warderref09_RightPrinc.f k r l) (princOk r l) := by
 unfold warderref09_RightPrinc.f princOk
 refine Ev.bindP (word_some r hs.size) ?_
 cases hw : wordB r with
 | false =>
  refine Ev.neg (by decide) ?_
  refine Ev.step ?_
  simp only [warderref09_RightPrinc.j0]
  exact Ev.pos trivial (Ev.pure rfl)
 | true =>
  refine Ev.pos rfl ?_
  by_cases h1 : l.length < 1
  ·refine Ev.pos (by omega) ?_
   refine Ev.step ?_
   simp only [warderref09_RightPrinc.j0]
   refine Ev.pos trivial (Ev.pure ?_)
   rw [decide_eq_false (by omega : ¬ 1 ≤ l.length)]
   simp
  ·refine Ev.neg (by omega) ?_
   refine Ev.step ?_
   simp only [warderref09_RightPrinc.j0]
   by_cases h8 : l.length > 8
   ·refine Ev.pos (by rw [decide_eq_true_eq]; omega) (Ev.pure ?_)
    rw [decide_eq_false (by omega : ¬ l.length ≤ 8)]
    simp
   ·refine Ev.neg (by rw [decide_eq_true_eq]; omega) ?_
    have := rightPrinc_loop r l hs.len hs.all l.length 0 (by omega) (fun q h1 => absurd h1 (Nat.not_lt_zero _))
    rw [decide_eq_true (by omega : 1 ≤ l.length), decide_eq_true (by omega : l.length ≤ 8)]
    simpa using this
theorem rightTicket_some (r : ByteArray) (l : List ByteArray) (e : Int) (hs : SmallP r l) : Ev (fun k => warderref17_RightTicket.f k r l e) (princOk r l && decide (0 ≤ e ∧ e < 281474976710656)) := by
 unfold warderref17_RightTicket.f
 refine Ev.bind (rightPrinc_some r l hs) ?_
 cases princOk r l with
 | false => exact Ev.neg (by decide) (Ev.pure rfl)
 | true =>
  refine Ev.pos rfl (Ev.bindP (x := decide (0 ≤ e ∧ e < 281474976710656)) ?_ (Ev.pure rfl))
  unfold warderref11_Handle.f
  by_cases h : e ≥ 0
  ·rw [if_pos h]
   congr 1
   rw [decide_eq_decide]
   exact ⟨fun x => ⟨h, x⟩, fun x => x.2⟩
  ·rw [if_neg h, decide_eq_false]
   exact fun x => h x.1
set_option maxRecDepth 100000 in
set_option maxHeartbeats 4000000 in
theorem right_calls (c : Int) (x : S36) (A1 : Option Addr) (c1 : Nat) (A3 : Option Addr) (c3 : Nat) (A5 : Option Addr) (c5 : Nat) (w : World) (h : ValC w x A1 c1 A3 c3 A5 c5) (hx : Small x) :
  Calls Tryz.prog 12 #[.int .u8 c, .agg (valV x A1 c1 A3 c3 A5 c5)] w fun e w' => e = .returned (.bool (partOk (code c) x)) ∧ Below w.heap.size w w' := by
 classical
 rw [ok_eq c x hx]
 have hbI : IsB (bareV c x).f1 := by
  unfold bareV
  split
  ·exact hx.isB
  ·split
   ·intro y hy; cases hy
   ·split <;> (intro y hy; cases hy)
 have F1 := Aside0.mk (fun (W : World) (hb : Below w.heap.size w W) => bare_calls c x A1 c1 A3 c3 A5 c5 W (h.below hb))
 have F2 := Aside0.mk (fun (W : World) (hb : Below w.heap.size w W) B1 d1 B3 d3 B5 d5 (h' : ValC W (bareV c x) B1 d1 B3 d3 B5 d5) => same_calls x (bareV c x) A1 c1 A3 c3 A5 c5 B1 d1 B3 d3 B5 d5 W (h.below hb) h' hx hbI)
 have PH := Aside0.mk h
 have PX := Aside0.mk hx
 clear h hx hbI
 unfold valV at F1 F2 ⊢
 generalize bareV c x = y at F1 F2 ⊢
 obtain ⟨D, hD⟩ : ∃ D, D = decide (x = y) := ⟨_, rfl⟩
 rw [← hD] at F2 ⊢
 obtain ⟨R, hR⟩ : ∃ R, R = (D && condO c x) := ⟨_, rfl⟩
 rw [← hR]
 have PR := Aside0.mk hR
 clear hR hD
 go_enter Tryz.func12, Tryz.ntmps12
 go_wp2_with (fail)
 have hkv := blk_new w (.cells #[.int .i64 x.f0, .slice A1 x.f1.length c1, .string x.f2.f0, .slice A3 x.f2.f1.length c3, .string x.f3.f0.f0, .slice A5 x.f3.f0.f1.length c5, .int .i64 x.f3.f1] 36)
 have hbV := below_alloc (Below.refl w.heap.size w) (.cells #[.int .i64 x.f0, .slice A1 x.f1.length c1, .string x.f2.f0, .slice A3 x.f2.f1.length c3, .string x.f3.f0.f0, .slice A5 x.f3.f0.f1.length c5, .int .i64 x.f3.f1] 36)
 generalize (w.alloc (.cells #[.int .i64 x.f0, .slice A1 x.f1.length c1, .string x.f2.f0, .slice A3 x.f2.f1.length c3, .string x.f3.f0.f0, .slice A5 x.f3.f0.f1.length c5, .int .i64 x.f3.f1] 36)) = W at hkv hbV ⊢
 have p0 := (blk_cell hkv 0).trans rfl; have p1 := (blk_cell hkv 1).trans rfl; have p2 := (blk_cell hkv 2).trans rfl; have p3 := (blk_cell hkv 3).trans rfl; have p4 := (blk_cell hkv 4).trans rfl; have p5 := (blk_cell hkv 5).trans rfl; have p6 := (blk_cell hkv 6).trans rfl
 have PG := Aside0.mk (And.intro hkv hbV)
 clear hkv hbV
 go_region_held3 (fun w' => w'.cell? ⟨w.heap.size, 0, none⟩ = some (.int .i64 x.f0) ∧ w'.cell? ⟨w.heap.size, 1, none⟩ = some (.slice A1 x.f1.length c1) ∧ w'.cell? ⟨w.heap.size, 2, none⟩ = some (.string x.f2.f0) ∧ w'.cell? ⟨w.heap.size, 3, none⟩ = some (.slice A3 x.f2.f1.length c3) ∧ w'.cell? ⟨w.heap.size, 4, none⟩ = some (.string x.f3.f0.f0) ∧ w'.cell? ⟨w.heap.size, 5, none⟩ = some (.slice A5 x.f3.f0.f1.length c5) ∧ w'.cell? ⟨w.heap.size, 6, none⟩ = some (.int .i64 x.f3.f1)) (go_keep) (first | (go_at_call 25; refine (F1.out _ (by first | exact PG.out.2 | exact below_drew1 PG.out.2)).mono ?_; rintro e w1 ⟨B1, d1, B3, d3, B5, d5, rfl, hV, hb⟩; have hb1 : Below W.heap.size W w1 := below_step (below_drew1 (Below.refl W.heap.size W)) hb; have PV := Aside0.mk (And.intro hV hb1); have p0 := (blk_cell (blk_below PG.out.1 hb1) 0).trans rfl; have p1 := (blk_cell (blk_below PG.out.1 hb1) 1).trans rfl; have p2 := (blk_cell (blk_below PG.out.1 hb1) 2).trans rfl; have p3 := (blk_cell (blk_below PG.out.1 hb1) 3).trans rfl; have p4 := (blk_cell (blk_below PG.out.1 hb1) 4).trans rfl; have p5 := (blk_cell (blk_below PG.out.1 hb1) 5).trans rfl; have p6 := (blk_cell (blk_below PG.out.1 hb1) 6).trans rfl; clear hb hb1 hV) | (go_at_call 24; refine (F2.out _ (below_step PG.out.2 PV.out.2) _ _ _ _ _ _ PV.out.1).mono ?_; rintro e w2 ⟨rfl, hb⟩; have hb2 : Below W.heap.size W w2 := below_step PV.out.2 hb; have P2 := Aside0.mk hb2; have p0 := (blk_cell (blk_below PG.out.1 hb2) 0).trans rfl; have p1 := (blk_cell (blk_below PG.out.1 hb2) 1).trans rfl; have p2 := (blk_cell (blk_below PG.out.1 hb2) 2).trans rfl; have p3 := (blk_cell (blk_below PG.out.1 hb2) 3).trans rfl; have p4 := (blk_cell (blk_below PG.out.1 hb2) 4).trans rfl; have p5 := (blk_cell (blk_below PG.out.1 hb2) 5).trans rfl; have p6 := (blk_cell (blk_below PG.out.1 hb2) 6).trans rfl; clear hb hb2))
 have B2 : Below w.heap.size w w2 := PG.out.2.trans (P2.out.mono PG.out.2.size)
 have PB := Aside0.mk B2
 clear B2
 cases D with
 | false =>
  have hR := PR.out
  rw [Bool.false_and] at hR
  subst hR
  go_wp2
  go_ret
  exact ⟨rfl, PB.out⟩
 | true =>
  have hR := PR.out
  rw [Bool.true_and] at hR
  unfold condO at hR
  clear F1 F2
  by_cases h1 : c = 98
  ·subst h1
   rw [if_pos rfl] at hR
   by_cases q0 : x.f0 = 0
   ·have q0' : (x.f0 == 0) = true := beq_iff_eq.2 q0
    rw [decide_eq_true q0, Bool.true_or] at hR
    subst hR
    clear q0
    go_wp2
    go_ret
    exact ⟨rfl, PB.out⟩
   ·have q0' : (x.f0 == 0) = false := beq_eq_false_iff_ne.2 q0
    have q1' : (x.f0 == 1) = R := by rw [hR, decide_eq_false q0, Bool.false_or]; by_cases h : x.f0 = 1 <;> simp [h]
    clear hR q0
    go_wp2
    go_ret
    exact ⟨rfl, PB.out⟩
  rw [if_neg h1] at hR
  have n1 : (c == 98) = false := beq_eq_false_iff_ne.2 h1
  by_cases h2 : c = 116
  ·subst h2
   rw [if_pos rfl] at hR
   have FM := Aside0.mk (fun W => warderref11_Moment.calls x.f0 R W (by
    unfold warderref11_Moment.f
    rw [hR]
    by_cases h : x.f0 ≥ -631152000
    ·rw [if_pos h]
     congr 1
     rw [decide_eq_decide]
     exact ⟨fun y => ⟨h, y⟩, fun y => y.2⟩
    ·rw [if_neg h, decide_eq_false]
     exact fun y => h y.1))
   clear hR h1 n1
   go_wp2_with (go_at_call 26; refine (FM.out _).mono ?_; rintro e w3 ⟨rfl, ⟨nd, rfl⟩⟩)
   go_ret
   exact ⟨rfl, pw_below_drewN PB.out _⟩
  rw [if_neg h2] at hR
  have n2 : (c == 116) = false := beq_eq_false_iff_ne.2 h2
  by_cases h3 : c = 111
  ·subst h3
   rw [if_pos rfl] at hR
   have q1 : decide ((x.f1.length : Int) ≤ 8192) = R := by rw [hR, decide_eq_decide]; omega
   clear hR h1 h2 n1 n2
   go_wp2
   go_ret
   exact ⟨rfl, PB.out⟩
  rw [if_neg h3] at hR
  have n3 : (c == 111) = false := beq_eq_false_iff_ne.2 h3
  by_cases h4 : c = 104
  ·subst h4
   rw [if_pos rfl] at hR
   clear h1 h2 h3 n1 n2 n3
   by_cases q0 : 0 ≤ x.f0
   ·have q1 : decide (x.f0 < 281474976710656) = R := by rw [hR, decide_eq_decide]; exact ⟨fun y => ⟨q0, y⟩, fun y => y.2⟩
    have q0' : decide (0 ≤ x.f0) = true := decide_eq_true q0
    clear hR q0
    go_wp2
    go_ret
    exact ⟨rfl, PB.out⟩
   ·have q0' : decide (0 ≤ x.f0) = false := decide_eq_false q0
    rw [decide_eq_false (fun y => q0 y.1)] at hR
    subst hR
    clear q0
    go_wp2
    go_ret
    exact ⟨rfl, PB.out⟩
  rw [if_neg h4] at hR
  have n4 : (c == 104) = false := beq_eq_false_iff_ne.2 h4
  by_cases h5 : c = 112
  ·subst h5
   rw [if_pos rfl] at hR
   obtain ⟨k, hk⟩ := (rightPrinc_some x.f2.f0 x.f2.f1 PX.out.princ).of
   rw [← hR] at hk
   have FM := Aside0.mk (fun (W : World) (hb : Below w.heap.size w W) => warderref09_RightPrinc.calls k x.f2.f0 A3 c3 x.f2.f1 R W (PH.out.below hb).g3 PH.out.l3 hk)
   clear hR hk h1 h2 h3 h4 n1 n2 n3 n4
   go_wp2_with (go_at_call 27; refine (FM.out _ PB.out).mono ?_; rintro e w3 ⟨rfl, hb3⟩)
   go_ret
   exact ⟨rfl, below_step PB.out hb3⟩
  rw [if_neg h5] at hR
  have n5 : (c == 112) = false := beq_eq_false_iff_ne.2 h5
  by_cases h6 : c = 107
  ·subst h6
   rw [if_pos rfl] at hR
   obtain ⟨k, hk⟩ := (rightTicket_some x.f3.f0.f0 x.f3.f0.f1 x.f3.f1 PX.out.server).of
   rw [← hR] at hk
   have FM := Aside0.mk (fun (W : World) (hb : Below w.heap.size w W) => warderref17_RightTicket.calls k x.f3.f0.f0 A5 c5 x.f3.f0.f1 x.f3.f1 R W (PH.out.below hb).g5 PH.out.l5 hk)
   clear hR hk h1 h2 h3 h4 h5 n1 n2 n3 n4 n5
   go_wp2_with (go_at_call 28; refine (FM.out _ PB.out).mono ?_; rintro e w3 ⟨rfl, hb3⟩)
   go_ret
   exact ⟨rfl, below_step PB.out hb3⟩
  rw [if_neg h6] at hR
  have n6 : (c == 107) = false := beq_eq_false_iff_ne.2 h6
  subst hR
  clear h1 h2 h3 h4 h5 h6
  go_wp2
  go_ret
  exact ⟨rfl, PB.out⟩
end Go.Proofs.YtncanijjnhkgbaaGreatDoor.PMsgsPut
namespace Go.Proofs.YtncanijjnhkgbaaGreatDoor.PMsgsPut
open Go.RowKit Go.Proofs.YtncanijjnhkgbaaGreatDoorW.PrintWords Go.Proofs.YtncanijjnhkgbaaGreatDoorW.PrintLast Go.Proofs.YtncanijjnhkgbaaGreatDoorW.PrintMore
attribute [local go_sem] max2_int min2_int max_two min_two max_three min_three max_four min_four
set_option linter.unusedVariables false
set_option linter.unusedSimpArgs false
mutual
noncomputable def warderref06_Bytes.j0 : Nat → Int → Bool → Option (List Int)
 | 0, _, _ => none
 | k + 1, x0, x10 => if x10 = true then (some ([] : List Int)) else (warderref06_Bytes.l0 k x0 (([193, 94] : List Int)) 5)
noncomputable def warderref06_Bytes.l0 : Nat → Int → List Int → Int → Option (List Int)
 | 0, _, _, _ => none
 | k + 1, x0, x3, x4 => if x4 ≥ 0 then (if 0 ≤ (wrap64 (8 * x4)) then (if x3.length < 140737488355328 then (warderref06_Bytes.l0 k x0 (x3 ++ [(shr .i64 x0 (wrap64 (8 * x4))) % 256]) (wrap64 (x4 - 1))) else (none)) else (none)) else (some x3)
end
noncomputable def warderref06_Bytes.f (k : Nat) (a0 : Int) : Option (List Int) := if a0 < 0 then (warderref06_Bytes.j0 k a0 true) else (warderref06_Bytes.j0 k a0 (decide (a0 ≥ 281474976710656)))
set_option maxHeartbeats 8000000 in
set_option maxRecDepth 100000 in
theorem warderref06_Bytes.calls (k : Nat) (a0 : Int) (r : List Int) (w : World) (h : warderref06_Bytes.f k a0 = some r) :
  Calls Tryz.prog 64 #[.int .i64 a0] w fun e w' => ∃ v0_ : Value, e = .returned (v0_) ∧ Kd.R (Kd.int .u8) 5 w' w.heap.size (fun _ => True) v0_ r ∧ Below w.heap.size w w' := by
 have HB := Aside0.mk (Below.refl w.heap.size w)
 have H : (if a0 < 0 then (warderref06_Bytes.j0 k a0 true) else (warderref06_Bytes.j0 k a0 (decide (a0 ≥ 281474976710656)))) = some r := h
 clear h
 have HC2 := Aside0.mk H
 clear H
 go_enter Tryz.func64, Tryz.ntmps64
 go_upto_region 1 with (fail)
 go_cut [10] (fun v10 wc => ∃ (kq : Nat) (x10_1 : Bool), v10 = .bool x10_1 ∧ Aside0 (warderref06_Bytes.j0 kq a0 x10_1 = some r) ∧ Aside0 (kq ≤ k) ∧ Aside0 (Below w.heap.size w wc))
 case first =>
  have H := HC2.out
  clear HC2
  by_cases c3 : a0 < 0
  ·rw [if_pos c3] at H
   have c3b0 : decide (a0 < 0) = true := decide_eq_true c3
   clear c3
   (first | rw [c3b0] | (simp only [i64_w, i32_w]; rw [c3b0]) | skip)
   have H' := Aside0.mk H
   clear H
   go_wp2
   go_meet
   case rel => exact ⟨_, (true), (by first | rfl | (simp; done) | (simp [*]; done)), H', ⟨by first | omega | exact Nat.le_refl _⟩, ⟨by repeat (first | (with_reducible first | exact HB.out | apply below_alloc | apply pw_below_drewN | apply below_drew1) | exact HB.out)⟩⟩
  ·rw [if_neg c3] at H
   have c3b0 : decide (a0 < 0) = false := decide_eq_false c3
   clear c3
   (first | rw [c3b0] | (simp only [i64_w, i32_w]; rw [c3b0]) | skip)
   have H' := Aside0.mk H
   clear H
   go_wp2
   go_meet
   case rel => exact ⟨_, (decide (a0 ≥ 281474976710656)), (by first | rfl | (simp; done) | (simp [*]; done)), H', ⟨by first | omega | exact Nat.le_refl _⟩, ⟨by repeat (first | (with_reducible first | exact HB.out | apply below_alloc | apply pw_below_drewN | apply below_drew1) | exact HB.out)⟩⟩
 case rest =>
  clear HC2
  try clear p2
  try clear c3
  try clear c3b0
  obtain ⟨kq, x10_1, rfl, HA, HJ1, HB⟩ := hcut
  cases kq with
  | zero => exact absurd HA.out (by simp [warderref06_Bytes.j0])
  | succ kj1 =>
   have H := HA.out
   clear HA
   simp only [warderref06_Bytes.j0] at H
   by_cases c4 : x10_1 = true
   ·subst c4
    have H1 : (some ([] : List Int)) = some r := by rw [if_pos rfl] at H; exact H
    clear H
    have H := H1
    clear H1
    obtain rfl := Option.some.inj H
    go_wp2
    go_ret
    exact ⟨_, by first | rfl | (simp [errW_none, errW_some] <;> rfl) | (simp [*, errW_none, errW_some] <;> rfl), by first | exact Kd.R_nil _ _ _ _ _ | exact Kd.N_nil _ _ _ _ _ | exact Kd.V_nil _ _ _ _ _ | exact Kd.Q_nil _ _ _ _ _ | exact Kd.S_nil _ _ _ _ _, by repeat (first | (with_reducible first | exact HB.out | apply below_alloc | apply pw_below_drewN | apply below_drew1) | exact HB.out)⟩
   ·replace c4 := Bool.eq_false_iff.mpr c4
    subst c4
    have H1 : (warderref06_Bytes.l0 kj1 a0 (([193, 94] : List Int)) 5) = some r := by rw [if_neg (show ¬ (false = true) by decide)] at H; exact H
    clear H
    have H := H1
    clear H1
    obtain ⟨y470, hy470⟩ : ∃ y_ : List Int, y_ = (([193, 94] : List Int)) := ⟨_, rfl⟩
    replace H : (warderref06_Bytes.l0 kj1 a0 y470 5) = some r := by first | (rw [hy470]; with_reducible exact H) | (have H2_ := (Option.bind_some _ _).symm.trans H; rw [hy470]; with_reducible exact H2_) | (have H2_ := (Option.bind_some _ _).symm.trans H; with_reducible exact H2_) | with_reducible exact H | (rw [hy470]; exact H) | exact H
    have Ny470 := Aside0.mk hy470
    clear hy470
    have H' := Aside0.mk H
    clear H
    go_wp2_with (first | ((with_reducible refine gate_dst (N := 11) rfl ?_); refine Kd.R_lit (Kd.int .u8) _ 5 ?hg (N := 11) ?hd (xs := ([193, 94] : List Int)) (inner := [.int .u8 193, .int .u8 94]) (ok := fun _ => True) (okp := fun _ => True) ?hr ?hp (fun _ hk => hk) trivial (Below.refl _ _) (Nat.le_refl _) (by simp) ?_; (case hd => rfl); (case hg => rfl); (case hr => first | (go_simp; done) | (go_simp; rfl)); (case hp => exact (Reps.one (show Kd.M (Kd.int .u8) _ _ _ 193 [.int .u8 193] from rfl) (Reps.one (show Kd.M (Kd.int .u8) _ _ _ 94 [.int .u8 94] from rfl) (Reps.none _ _)))); intro v471 w5 ho6 hb hg_ hnew_; clear hg_ hnew_; (first | rw [← Ny470.out] at ho6 | (simp only [Int.reduceToNat] at ho6; rw [← Ny470.out] at ho6)); have n0_ := Aside0.mk (Kd.R_lower ho6 (below_size (by repeat (first | (with_reducible first | exact HB.out | apply below_alloc | apply pw_below_drewN | apply below_drew1) | exact HB.out)))); have n1_ := Aside0.mk (below_step (by repeat (first | (with_reducible first | exact HB.out | apply below_alloc | apply pw_below_drewN | apply below_drew1) | exact HB.out)) hb); clear HB; have HO472 := n0_; have HB := n1_; clear n0_ n1_; clear hb ho6))
    go_loopg [3, 4] kj1 (fun kq v3 v4 w' => ∃ (x3_2 : List Int) (x4_2 : Int), v4 = .int .i64 x4_2 ∧ Aside0 (warderref06_Bytes.l0 kq a0 x3_2 x4_2 = some r) ∧ Aside0 (kq ≤ kj1) ∧ Aside0 (Kd.R (Kd.int .u8) 5 w' w.heap.size (fun _ => True) v3 x3_2) ∧ Aside0 (Below w.heap.size w w'))
    case atStart => exact ⟨(y470), (5), (by first | rfl | (simp; done) | (simp [*]; done)), H', ⟨Nat.le_refl _⟩, ⟨by (with_reducible repeat (first | apply Kd.R_alloc | apply Kd.R_drewN | apply Kd.R_drew)); exact HO472.out⟩, ⟨by repeat (first | (with_reducible first | exact HB.out | apply below_alloc | apply pw_below_drewN | apply below_drew1) | exact HB.out)⟩⟩
    case round =>
     clear H'
     try clear p2
     try clear c3
     try clear c3b0
     try clear c4
     try clear c6
     try clear p2
     obtain ⟨x3_2, x4_2, rfl, HA, HK2, HO_3, HB⟩ := hrel
     cases gk with
     | zero => exact absurd HA.out (by simp [warderref06_Bytes.l0])
     | succ k2 =>
      have H := HA.out
      clear HA
      simp only [warderref06_Bytes.l0] at H
      by_cases c7 : x4_2 ≥ 0
      ·rw [if_pos c7] at H
       have c7b0 : decide (0 ≤ x4_2) = true := decide_eq_true c7
       clear c7
       obtain ⟨ji8, hji8⟩ : ∃ j_ : Int, (wrap64 (8 * x4_2)) = j_ := ⟨_, rfl⟩
       replace H : (if 0 ≤ (ji8) then (if x3_2.length < 140737488355328 then (warderref06_Bytes.l0 k2 a0 (x3_2 ++ [(shr .i64 a0 (ji8)) % 256]) (wrap64 (x4_2 - 1))) else (none)) else (none)) = some r := by first | (rw [hji8] at H; exact H) | (simp only [hji8] at H ⊢; exact H)
       have hji8w : (IntKind.i64.wrap (8 * x4_2)) = ji8 := (i64_w _).trans hji8
       by_cases c9 : 0 ≤ (ji8)
       ·rw [if_pos c9] at H
        have c9b0 := eq_true c9
        have c9b1 : decide (0 ≤ (ji8)) = true := decide_eq_true c9
        clear c9
        obtain ⟨ji10, hji10⟩ : ∃ j_ : Int, (shr .i64 a0 (ji8)) = j_ := ⟨_, rfl⟩
        replace H : (if x3_2.length < 140737488355328 then (warderref06_Bytes.l0 k2 a0 (x3_2 ++ [(ji10) % 256]) (wrap64 (x4_2 - 1))) else (none)) = some r := by first | (rw [hji10] at H; exact H) | (simp only [hji10] at H ⊢; exact H)
        have hji10_ : (a0 / 2 ^ min (ji8).toNat 64) = ji10 := hji10
        have hji10z : (ji8) ≤ 64 → (a0 / 2 ^ (ji8).toNat) = ji10 := shr_small hji10
        by_cases c11 : x3_2.length < 140737488355328
        ·rw [if_pos c11] at H
         have LMc11 := Aside0.mk c11
         clear c11
         obtain ⟨y473, hy473⟩ : ∃ y_ : List Int, y_ = (x3_2 ++ [(ji10) % 256]) := ⟨_, rfl⟩
         replace H : (warderref06_Bytes.l0 k2 a0 y473 (wrap64 (x4_2 - 1))) = some r := by first | (rw [hy473]; with_reducible exact H) | (have H2_ := (Option.bind_some _ _).symm.trans H; rw [hy473]; with_reducible exact H2_) | (have H2_ := (Option.bind_some _ _).symm.trans H; with_reducible exact H2_) | with_reducible exact H | (rw [hy473]; exact H) | exact H
         have Ny473 := Aside0.mk hy473
         clear hy473
         have H' := Aside0.mk H
         clear H
         go_wp2_with (first | ((with_reducible refine gate_builtin (b := .append) (xs := #[.tmp 16, .tmp 22]) rfl ?_); at_builtin; refine Kd.R_append (Kd.int .u8) (w0 := w) w.heap.size rfl (.tmp 16) (.tmp 22) 25 5 (.int .u8 0) 1 rfl Tryz.underlying25 info5 rfl (by decide) (by omega) u3 x3_2 ((ji10) % 256) [.int .u8 ((ji10) % 256)] (fun _ => True) (fun _ => False) rfl rfl ?aP (fun _ hk => hk.elim) ?aF ?aO ?aB ?aS ?aL ?_; (case aP => exact rfl); (case aB => exact (by repeat (first | (with_reducible first | exact HB.out | apply below_alloc | apply pw_below_drewN | apply below_drew1) | exact HB.out))); (case aF => exact (fun _ _ => trivial)); (case aO => exact (by (with_reducible repeat (first | apply Kd.R_alloc | apply Kd.R_drewN | apply Kd.R_drew)); exact HO_3.out)); (case aS => exact (below_size (by repeat (first | (with_reducible first | exact HB.out | apply below_alloc | apply pw_below_drewN | apply below_drew1) | exact HB.out)))); (case aL => have := LMc11.out; omega); intro v474 w12 ho hb hg hat; rw [← Ny473.out] at ho; have n0_ := Aside0.mk (hb); have n1_ := Aside0.mk (ho); clear HB; clear HO_3; have HB := n0_; have HO475 := n1_; clear n0_ n1_; clear ho hb hg hat))
         go_roundg k2
         case measure => have := HJ1.out; have := HK2.out; omega
         case rel => exact ⟨(y473), (wrap64 (x4_2 - 1)), (by first | rfl | (simp; done) | (simp [*]; done)), H', ⟨by have := HJ1.out; have := HK2.out; omega⟩, ⟨by (with_reducible repeat (first | apply Kd.R_alloc | apply Kd.R_drewN | apply Kd.R_drew)); exact HO475.out⟩, ⟨by repeat (first | (with_reducible first | exact HB.out | apply below_alloc | apply pw_below_drewN | apply below_drew1) | exact HB.out)⟩⟩
        ·rw [if_neg c11] at H
         exact absurd H (by simp)
       ·rw [if_neg c9] at H
        exact absurd H (by simp)
      ·rw [if_neg c7] at H
       have c7b0 : decide (0 ≤ x4_2) = false := decide_eq_false c7
       clear c7
       obtain rfl := Option.some.inj H
       go_wp2
       go_ret
       exact ⟨_, by first | rfl | (simp [errW_none, errW_some] <;> rfl) | (simp [*, errW_none, errW_some] <;> rfl), by (with_reducible repeat (first | apply Kd.R_alloc | apply Kd.R_drewN | apply Kd.R_drew)); exact HO_3.out, by repeat (first | (with_reducible first | exact HB.out | apply below_alloc | apply pw_below_drewN | apply below_drew1) | exact HB.out)⟩
noncomputable def warderref09_Handle.f (k : Nat) (a0 : Int) : Option (Int × List Int × (List (S44))) := (warderref06_Bytes.f k a0).bind fun t477 => ((warderref09_Octets.f t477).bind fun bt480 => (some (bt480.1, bt480.2.1, bt480.2.2)))
set_option maxHeartbeats 8000000 in
set_option maxRecDepth 100000 in
theorem warderref09_Handle.calls (k : Nat) (a0 : Int) (r1 : Int) (r2 : List Int) (r3 : List (S44)) (w : World) (h : warderref09_Handle.f k a0 = some (r1, r2, r3)) :
  Calls Tryz.prog 32 #[.int .i64 a0] w fun e w' => ∃ v1_ v2_ : Value, e = .returned (.agg #[.int .u8 r1, v1_, v2_]) ∧ Kd.R (Kd.int .u8) 5 w' w.heap.size (fun _ => True) v1_ r2 ∧ Kd.R k44 44 w' w.heap.size (fun k_ => some k_ ≠ (v1_ : Value).ownBlock) v2_ r3 ∧ Below w.heap.size w w' := by
 have hu44 := Tryz.underlying44
 have HB := Aside0.mk (Below.refl w.heap.size w)
 have H : ((warderref06_Bytes.f k a0).bind fun t477 => ((warderref09_Octets.f t477).bind fun bt480 => (some (bt480.1, bt480.2.1, bt480.2.2)))) = some (r1, r2, r3) := h
 clear h
 replace H := Option.bind_eq_some_iff.mp H
 obtain ⟨t477, A20, H⟩ := H
 replace H : ((warderref09_Octets.f t477).bind fun bt480 => (some (bt480.1, bt480.2.1, bt480.2.2))) = some (r1, r2, r3) := H
 have A2 := Aside0.mk A20
 clear A20
 replace H := Option.bind_eq_some_iff.mp H
 obtain ⟨⟨t480, t481, t484⟩, A30, H⟩ := H
 replace H : (some (t480, t481, t484)) = some (r1, r2, r3) := H
 have A3 := Aside0.mk A30
 clear A30
 simp only [Option.some.injEq, Prod.mk.injEq] at H
 obtain ⟨rfl, rfl, rfl⟩ := H
 go_enter Tryz.func32, Tryz.ntmps32
 go_wp2_with (first | ((with_reducible refine gate_dst (N := 2) rfl ?_); refine box_event ?hg (N := 2) ?hd (cs := #[.int .u8 0, .slice none 0 0, .slice none 0 0]) (t := 44) ?hr ?_; (case hd => rfl); (case hg => rfl); (case hr => first | (go_simp; done) | (go_simp; rfl)); intro gb476 hg w4 hbox hb; have n0_ := Aside0.mk (below_step (by repeat (first | (with_reducible first | exact HB.out | apply below_alloc | apply pw_below_drewN | apply below_drew1) | exact HB.out)) hb); have n1_ := Aside0.mk (hbox); have n2_ := Aside0.mk ((by rw [hg]; exact (below_size (by repeat (first | (with_reducible first | exact HB.out | apply below_alloc | apply pw_below_drewN | apply below_drew1) | exact HB.out))) : w.heap.size ≤ gb476)); have n3_ := Aside0.mk ((by rw [hg]; exact (below_size (by repeat (first | (with_reducible first | exact HB.out | apply below_alloc | apply pw_below_drewN | apply below_drew1) | exact HB.out))) : w.heap.size ≤ gb476)); clear HB; have HB := n0_; have BK476 := n1_; have GW476 := n2_; have GE476 := n3_; clear n0_ n1_ n2_ n3_; clear hb hbox hg) | ((with_reducible refine gate_callee (f := 64) rfl ?_); refine goesL_ (some 4) rfl rfl Tryz.func64 (by kernel_rfl) rfl #[.int .i64 a0] rfl (by (try simp only [List.map_toArray, List.map_cons, List.map_nil]); first | done | rfl | (simp only [List.length_drop, List.length_take]; rfl)) ?_; (with_reducible refine (warderref06_Bytes.calls k a0 t477 _ A2.out).mono ?_); rintro e w5 ⟨v478, rfl, ho0, hb⟩; refine ⟨_, rfl, ?_⟩; have n0_ := Aside0.mk (Kd.R_lower ho0 (below_size (by repeat (first | (with_reducible first | exact HB.out | apply below_alloc | apply pw_below_drewN | apply below_drew1 | refine below_set ?_ GE476.out) | exact HB.out)))); have n1_ := Aside0.mk (blk_below (g := gb476) (o := .cells #[.int .u8 0, .slice none 0 0, .slice none 0 0] 44 (0, 0)) (by (with_reducible repeat (first | refine blk_drewN ?_ _ | refine blk_drew ?_ | refine blk_alloc ?_ _)); exact BK476.out) hb); have n2_ := Aside0.mk (below_step (by repeat (first | (with_reducible first | exact HB.out | apply below_alloc | apply pw_below_drewN | apply below_drew1 | refine below_set ?_ GE476.out) | exact HB.out)) hb); clear BK476; clear HB; have HO479 := n0_; have BK476 := n1_; have HB := n2_; clear n0_ n1_ n2_; (try clear hb); (try clear hb2); (try clear hk); (try clear hi); (try clear ho0); obtain ⟨Ao6, co6, eo6⟩ := Kd.R_slice HO479.out; subst eo6) | ((with_reducible refine gate_callee (f := 31) rfl ?_); refine goesL_ (some 5) rfl rfl Tryz.func31 (by kernel_rfl) rfl #[.slice Ao6 t477.length co6] rfl (by (try simp only [List.map_toArray, List.map_cons, List.map_nil]); first | done | rfl | (simp only [List.length_drop, List.length_take]; rfl)) ?_; (with_reducible refine (warderref09_Octets.calls _ _ t477 t480 t481 t484 _ ?side1 ?side2 A3.out).mono ?_); (case side1 => repeat (first | exact (Kd.R_reads' HO479.out).2.2 | (with_reducible refine Kd.C_alloc ?_ _) | (with_reducible refine Kd.C_drewN ?_ _) | (with_reducible refine Kd.C_drew ?_))); (case side2 => exact (Kd.R_reads' HO479.out).2.1); rintro e w7 ⟨v482, v485, rfl, ho0, ho1, hb⟩; refine ⟨_, rfl, ?_⟩; have n0_ := Aside0.mk (Kd.R_elder' (by (with_reducible repeat (first | apply Kd.R_alloc | apply Kd.R_drewN | apply Kd.R_drew)); exact HO479.out) (Kd.R_base ho0) hb); have n1_ := Aside0.mk (Kd.R_lower (Kd.R_new' ho0 (Kd.R_lt (by (with_reducible repeat (first | apply Kd.R_alloc | apply Kd.R_drewN | apply Kd.R_drew)); exact HO479.out))) (below_size (by repeat (first | (with_reducible first | exact HB.out | apply below_alloc | apply pw_below_drewN | apply below_drew1 | refine below_set ?_ GE476.out) | exact HB.out)))); have n2_ := Aside0.mk (Kd.R_lower (Kd.R_newB (Kd.R_new' ho1 (Kd.R_lt (by (with_reducible repeat (first | apply Kd.R_alloc | apply Kd.R_drewN | apply Kd.R_drew)); exact HO479.out))) (g := gb476) (o := .cells #[.int .u8 0, .slice none 0 0, .slice none 0 0] 44 (0, 0)) (by (with_reducible repeat (first | refine blk_drewN ?_ _ | refine blk_drew ?_ | refine blk_alloc ?_ _)); exact BK476.out)) (below_size (by repeat (first | (with_reducible first | exact HB.out | apply below_alloc | apply pw_below_drewN | apply below_drew1 | refine below_set ?_ GE476.out) | exact HB.out)))); have n3_ := Aside0.mk (blk_below (g := gb476) (o := .cells #[.int .u8 0, .slice none 0 0, .slice none 0 0] 44 (0, 0)) (by (with_reducible repeat (first | refine blk_drewN ?_ _ | refine blk_drew ?_ | refine blk_alloc ?_ _)); exact BK476.out) hb); have n4_ := Aside0.mk (below_step (by repeat (first | (with_reducible first | exact HB.out | apply below_alloc | apply pw_below_drewN | apply below_drew1 | refine below_set ?_ GE476.out) | exact HB.out)) hb); clear HO479; clear BK476; clear HB; have HO479 := n0_; have HO483 := n1_; have HO486 := n2_; have BK476 := n3_; have HB := n4_; clear n0_ n1_ n2_ n3_ n4_; (try clear hb); (try clear hb2); (try clear hk); (try clear hi); (try clear ho0); (try clear ho1); have hcz8_0 : w7.cell? ⟨gb476, 0, none⟩ = some (.int .u8 0) := (blk_cell BK476.out 0).trans rfl; have hcz8_1 : w7.cell? ⟨gb476, 1, none⟩ = some (.slice none 0 0) := (blk_cell BK476.out 1).trans rfl; have hcz8_2 : w7.cell? ⟨gb476, 2, none⟩ = some (.slice none 0 0) := (blk_cell BK476.out 2).trans rfl; have hfz8_0 := blk_frozen BK476.out 0; have hfz8_1 := blk_frozen BK476.out 1; have hfz8_2 := blk_frozen BK476.out 2; obtain ⟨Ao9, co9, eo9⟩ := Kd.R_slice HO483.out; subst eo9; obtain ⟨Ao10, co10, eo10⟩ := Kd.R_slice HO486.out; subst eo10))
 refine bodyPost_ret (results_cell_row rfl _ _ gb476 44 #[.int .u8 t480, .slice Ao9 t481.length co9, .slice Ao10 t484.length co10] (0, 0) _ rfl (by (with_reducible repeat (first | refine blk_drewN ?_ _ | refine blk_drew ?_ | refine blk_alloc ?_ _)); refine blk_put (cs := #[.int .u8 t480, .slice Ao9 t481.length co9, .slice none 0 0]) ?_ 2 _ rfl; (with_reducible repeat (first | refine blk_drewN ?_ _ | refine blk_drew ?_ | refine blk_alloc ?_ _)); refine blk_put (cs := #[.int .u8 t480, .slice none 0 0, .slice none 0 0]) ?_ 1 _ rfl; (with_reducible repeat (first | refine blk_drewN ?_ _ | refine blk_drew ?_ | refine blk_alloc ?_ _)); refine blk_put (cs := #[.int .u8 0, .slice none 0 0, .slice none 0 0]) ?_ 0 _ rfl; (with_reducible repeat (first | refine blk_drewN ?_ _ | refine blk_drew ?_ | refine blk_alloc ?_ _)); exact BK476.out) Tryz.underlying44 rfl (by kernel_rfl)) rfl ?_
 exact ⟨_, _, by first | rfl | (simp [errW_none, errW_some] <;> rfl) | (simp [*, errW_none, errW_some] <;> rfl), by (with_reducible repeat (first | apply Kd.R_alloc | apply Kd.R_drewN | apply Kd.R_drew)); exact Kd.R_mono (Kd.R_far (p := ⟨gb476, 2, none⟩) (Kd.R_far (p := ⟨gb476, 1, none⟩) (Kd.R_far (p := ⟨gb476, 0, none⟩) (Kd.R_types HO483.out BK476.out (by decide)) (fun _ hk => hk.2) (.int .u8 t480)) (fun _ hk => hk.2) (.slice Ao9 t481.length co9)) (fun _ hk => hk.2) (.slice Ao10 t484.length co10)) (fun _ hk => trivial), by (with_reducible repeat (first | apply Kd.R_alloc | apply Kd.R_drewN | apply Kd.R_drew)); exact Kd.R_mono (Kd.R_far (p := ⟨gb476, 2, none⟩) (Kd.R_far (p := ⟨gb476, 1, none⟩) (Kd.R_far (p := ⟨gb476, 0, none⟩) (Kd.R_mono HO486.out (fun k_ hk => (⟨hk, hk.2⟩ : _ ∧ k_ ≠ gb476))) (fun _ hk => hk.2) (.int .u8 t480)) (fun _ hk => hk.2) (.slice Ao9 t481.length co9)) (fun _ hk => hk.2) (.slice Ao10 t484.length co10)) (fun _ hk => hk.1.1.1), by repeat (first | (with_reducible first | exact HB.out | apply below_alloc | apply pw_below_drewN | apply below_drew1 | refine below_set ?_ GE476.out) | exact HB.out)⟩
def warderref17_Node.B1 : List Nat := [0, 1, 3, 0, 8, 31, 63, 127, 255, 511, 1023]
noncomputable def warderref02_PutInt.l0 : Nat → Int → List Int → Option (List Int)
 | 0, _, _ => none
 | k + 1, x0, x3 => if x0 < (-128) then ((some (([(x0 / 256) % 256] : List Int) : List Int)).bind fun y564 => (if y564.length + x3.length < 140737488355328 then (warderref02_PutInt.l0 k (x0 / 256) (y564 ++ x3)) else (none))) else (if x0 > 127 then ((some (([(x0 / 256) % 256] : List Int) : List Int)).bind fun y570 => (if y570.length + x3.length < 140737488355328 then (warderref02_PutInt.l0 k (x0 / 256) (y570 ++ x3)) else (none))) else (some x3))
noncomputable def warderref02_PutInt.f (k : Nat) (a0 : Int) : Option (List Int) := warderref02_PutInt.l0 k a0 (([(a0) % 256] : List Int))
set_option maxHeartbeats 8000000 in
set_option maxRecDepth 100000 in
theorem warderref02_PutInt.calls (k : Nat) (a0 : Int) (r : List Int) (w : World) (h : warderref02_PutInt.f k a0 = some r) :
  Calls Tryz.prog 66 #[.int .i64 a0] w fun e w' => ∃ v0_ : Value, e = .returned (v0_) ∧ Kd.R (Kd.int .u8) 5 w' w.heap.size (fun _ => True) v0_ r ∧ Below w.heap.size w w' := by
 have HB := Aside0.mk (Below.refl w.heap.size w)
 have H : (warderref02_PutInt.l0 k a0 (([(a0) % 256] : List Int))) = some r := h
 clear h
 obtain ⟨y561, hy561⟩ : ∃ y_ : List Int, y_ = (([(a0) % 256] : List Int)) := ⟨_, rfl⟩
 replace H : (warderref02_PutInt.l0 k a0 y561) = some r := by first | (rw [hy561]; with_reducible exact H) | (have H2_ := (Option.bind_some _ _).symm.trans H; rw [hy561]; with_reducible exact H2_) | (have H2_ := (Option.bind_some _ _).symm.trans H; with_reducible exact H2_) | with_reducible exact H | (rw [hy561]; exact H) | exact H
 have Ny561 := Aside0.mk hy561
 clear hy561
 have H' := Aside0.mk H
 clear H
 go_enter Tryz.func66, Tryz.ntmps66
 go_wp2_with (first | ((with_reducible refine gate_dst (N := 6) rfl ?_); refine Kd.R_lit (Kd.int .u8) _ 5 ?hg (N := 6) ?hd (xs := ([(a0) % 256] : List Int)) (inner := [.int .u8 ((a0) % 256)]) (ok := fun _ => True) (okp := fun _ => True) ?hr ?hp (fun _ hk => hk) trivial (Below.refl _ _) (Nat.le_refl _) (by simp) ?_; (case hd => rfl); (case hg => rfl); (case hr => first | (go_simp; done) | (go_simp; rfl)); (case hp => exact (Reps.one (show Kd.M (Kd.int .u8) _ _ _ ((a0) % 256) [.int .u8 ((a0) % 256)] from rfl) (Reps.none _ _))); intro v562 w2 ho3 hb hg_ hnew_; clear hg_ hnew_; (first | rw [← Ny561.out] at ho3 | (simp only [Int.reduceToNat] at ho3; rw [← Ny561.out] at ho3)); have n0_ := Aside0.mk (Kd.R_lower ho3 (below_size (by repeat (first | (with_reducible first | exact HB.out | apply below_alloc | apply pw_below_drewN | apply below_drew1) | exact HB.out)))); have n1_ := Aside0.mk (below_step (by repeat (first | (with_reducible first | exact HB.out | apply below_alloc | apply pw_below_drewN | apply below_drew1) | exact HB.out)) hb); clear HB; have HO563 := n0_; have HB := n1_; clear n0_ n1_; clear hb ho3))
 go_loopg [0, 3] k (fun kq v0 v3 w' => ∃ (x0_1 : Int) (x3_1 : List Int), v0 = .int .i64 x0_1 ∧ Aside0 (warderref02_PutInt.l0 kq x0_1 x3_1 = some r) ∧ Aside0 (kq ≤ k) ∧ Aside0 (Kd.R (Kd.int .u8) 5 w' w.heap.size (fun _ => True) v3 x3_1) ∧ Aside0 (Below w.heap.size w w'))
 case atStart => exact ⟨(a0), (y561), (by first | rfl | (simp; done) | (simp [*]; done)), H', ⟨Nat.le_refl _⟩, ⟨by (with_reducible repeat (first | apply Kd.R_alloc | apply Kd.R_drewN | apply Kd.R_drew)); exact HO563.out⟩, ⟨by repeat (first | (with_reducible first | exact HB.out | apply below_alloc | apply pw_below_drewN | apply below_drew1) | exact HB.out)⟩⟩
 case round =>
  clear H'
  try clear p2
  obtain ⟨x0_1, x3_1, rfl, HA, HK1, HO_3, HB⟩ := hrel
  cases gk with
  | zero => exact absurd HA.out (by simp [warderref02_PutInt.l0])
  | succ k1 =>
   have H := HA.out
   clear HA
   simp only [warderref02_PutInt.l0] at H
   by_cases c4 : x0_1 < (-128)
   ·rw [if_pos c4] at H
    have c4b0 : decide (x0_1 < (-128)) = true := decide_eq_true c4
    clear c4
    obtain ⟨y564, hy564⟩ : ∃ y_ : List Int, y_ = (([(x0_1 / 256) % 256] : List Int)) := ⟨_, rfl⟩
    replace H : (if y564.length + x3_1.length < 140737488355328 then (warderref02_PutInt.l0 k1 (x0_1 / 256) (y564 ++ x3_1)) else (none)) = some r := by first | (rw [hy564]; with_reducible exact H) | (have H2_ := (Option.bind_some _ _).symm.trans H; rw [hy564]; with_reducible exact H2_) | (have H2_ := (Option.bind_some _ _).symm.trans H; with_reducible exact H2_) | with_reducible exact H | (rw [hy564]; exact H) | exact H
    have Ny564 := Aside0.mk hy564
    clear hy564
    by_cases c5 : y564.length + x3_1.length < 140737488355328
    ·rw [if_pos c5] at H
     have LMc5 := Aside0.mk c5
     clear c5
     obtain ⟨y567, hy567⟩ : ∃ y_ : List Int, y_ = (y564 ++ x3_1) := ⟨_, rfl⟩
     replace H : (warderref02_PutInt.l0 k1 (x0_1 / 256) y567) = some r := by first | (rw [hy567]; with_reducible exact H) | (have H2_ := (Option.bind_some _ _).symm.trans H; rw [hy567]; with_reducible exact H2_) | (have H2_ := (Option.bind_some _ _).symm.trans H; with_reducible exact H2_) | with_reducible exact H | (rw [hy567]; exact H) | exact H
     have Ny567 := Aside0.mk hy567
     clear hy567
     have H' := Aside0.mk H
     clear H
     go_wp2_with (first | ((with_reducible refine gate_dst (N := 17) rfl ?_); refine Kd.R_lit (Kd.int .u8) _ 5 ?hg (N := 17) ?hd (xs := ([(x0_1 / 256) % 256] : List Int)) (inner := [.int .u8 ((x0_1 / 256) % 256)]) (ok := fun _ => True) (okp := fun _ => True) ?hr ?hp (fun _ hk => hk) trivial (Below.refl _ _) (Nat.le_refl _) (by simp) ?_; (case hd => rfl); (case hg => rfl); (case hr => first | (go_simp; done) | (go_simp; rfl)); (case hp => exact (Reps.one (show Kd.M (Kd.int .u8) _ _ _ ((x0_1 / 256) % 256) [.int .u8 ((x0_1 / 256) % 256)] from rfl) (Reps.none _ _))); intro v565 w6 ho7 hb hg_ hnew_; clear hg_ hnew_; (first | rw [← Ny564.out] at ho7 | (simp only [Int.reduceToNat] at ho7; rw [← Ny564.out] at ho7)); have n0_ := Aside0.mk (Kd.R_elder' (by (with_reducible repeat (first | apply Kd.R_alloc | apply Kd.R_drewN | apply Kd.R_drew)); exact HO_3.out) (Kd.R_base ho7) hb); have n1_ := Aside0.mk (Kd.R_lower (Kd.R_new' ho7 (Kd.R_lt (by (with_reducible repeat (first | apply Kd.R_alloc | apply Kd.R_drewN | apply Kd.R_drew)); exact HO_3.out))) (below_size (by repeat (first | (with_reducible first | exact HB.out | apply below_alloc | apply pw_below_drewN | apply below_drew1) | exact HB.out)))); have n2_ := Aside0.mk (below_step (by repeat (first | (with_reducible first | exact HB.out | apply below_alloc | apply pw_below_drewN | apply below_drew1) | exact HB.out)) hb); clear HO_3; clear HB; have HO_3 := n0_; have HO566 := n1_; have HB := n2_; clear n0_ n1_ n2_; clear hb ho7; obtain ⟨Ao9, co9, eo9⟩ := Kd.R_slice HO_3.out; subst eo9) | ((with_reducible refine gate_builtin (b := .append) (xs := #[.tmp 17, .tmp 18]) rfl ?_); at_builtin; refine Kd.R_append_rows (Kd.int .u8) (w0 := w) w.heap.size rfl (.tmp 17) (.tmp 18) 25 5 (.int .u8 0) 1 rfl Tryz.underlying25 info5 rfl (by decide) (by omega) v565 y564 x3_1 _ _ _ (fun k_ => some k_ ≠ (.slice Ao9 x3_1.length co9 : Value).ownBlock) (fun _ => False) rfl rfl ?aO ?aR (fun _ _ h => h) (fun _ h => h.elim) ?aF ?aB ?aS ?aL ?_; (case aR => repeat (first | exact (Kd.R_reads' HO_3.out).2.2 | (with_reducible refine Kd.C_alloc ?_ _) | (with_reducible refine Kd.C_drewN ?_ _) | (with_reducible refine Kd.C_drew ?_))); (case aB => exact (by repeat (first | (with_reducible first | exact HB.out | apply below_alloc | apply pw_below_drewN | apply below_drew1) | exact HB.out))); (case aF => exact (fun k_ hk => Kd.fresh' (Kd.R_lt (by (with_reducible repeat (first | apply Kd.R_alloc | apply Kd.R_drewN | apply Kd.R_drew)); exact HO_3.out)) k_ hk)); (case aO => exact (by (with_reducible repeat (first | apply Kd.R_alloc | apply Kd.R_drewN | apply Kd.R_drew)); exact Kd.R_mono HO566.out (fun _ hk => hk.2))); (case aS => exact (below_size (by repeat (first | (with_reducible first | exact HB.out | apply below_alloc | apply pw_below_drewN | apply below_drew1) | exact HB.out)))); (case aL => have := LMc5.out; omega); intro v568 w8 ho hb hg hat; rw [← Ny567.out] at ho; have n0_ := Aside0.mk (Kd.R_after (ok := (fun _ => True)) (by (with_reducible repeat (first | apply Kd.R_alloc | apply Kd.R_drewN | apply Kd.R_drew)); exact HO_3.out) hg hat); have n1_ := Aside0.mk (hb); have n2_ := Aside0.mk (ho); clear HO_3; clear HB; clear HO566; have HO_3 := n0_; have HB := n1_; have HO569 := n2_; clear n0_ n1_ n2_; clear ho hb hg hat))
     go_roundg k1
     case measure => have := HK1.out; omega
     case rel => exact ⟨(x0_1 / 256), (y567), (by first | rfl | (simp; done) | (simp [*]; done)), H', ⟨by have := HK1.out; omega⟩, ⟨by (with_reducible repeat (first | apply Kd.R_alloc | apply Kd.R_drewN | apply Kd.R_drew)); exact Kd.R_mono HO569.out (fun _ hk => trivial)⟩, ⟨by repeat (first | (with_reducible first | exact HB.out | apply below_alloc | apply pw_below_drewN | apply below_drew1) | exact HB.out)⟩⟩
    ·rw [if_neg c5] at H
     exact absurd H (by simp)
   ·rw [if_neg c4] at H
    have c4b0 : decide (x0_1 < (-128)) = false := decide_eq_false c4
    clear c4
    by_cases c10 : x0_1 > 127
    ·rw [if_pos c10] at H
     have c10b0 : decide (127 < x0_1) = true := decide_eq_true c10
     clear c10
     obtain ⟨y570, hy570⟩ : ∃ y_ : List Int, y_ = (([(x0_1 / 256) % 256] : List Int)) := ⟨_, rfl⟩
     replace H : (if y570.length + x3_1.length < 140737488355328 then (warderref02_PutInt.l0 k1 (x0_1 / 256) (y570 ++ x3_1)) else (none)) = some r := by first | (rw [hy570]; with_reducible exact H) | (have H2_ := (Option.bind_some _ _).symm.trans H; rw [hy570]; with_reducible exact H2_) | (have H2_ := (Option.bind_some _ _).symm.trans H; with_reducible exact H2_) | with_reducible exact H | (rw [hy570]; exact H) | exact H
     have Ny570 := Aside0.mk hy570
     clear hy570
     by_cases c11 : y570.length + x3_1.length < 140737488355328
     ·rw [if_pos c11] at H
      have LMc11 := Aside0.mk c11
      clear c11
      obtain ⟨y573, hy573⟩ : ∃ y_ : List Int, y_ = (y570 ++ x3_1) := ⟨_, rfl⟩
      replace H : (warderref02_PutInt.l0 k1 (x0_1 / 256) y573) = some r := by first | (rw [hy573]; with_reducible exact H) | (have H2_ := (Option.bind_some _ _).symm.trans H; rw [hy573]; with_reducible exact H2_) | (have H2_ := (Option.bind_some _ _).symm.trans H; with_reducible exact H2_) | with_reducible exact H | (rw [hy573]; exact H) | exact H
      have Ny573 := Aside0.mk hy573
      clear hy573
      have H' := Aside0.mk H
      clear H
      go_wp2_with (first | ((with_reducible refine gate_dst (N := 17) rfl ?_); refine Kd.R_lit (Kd.int .u8) _ 5 ?hg (N := 17) ?hd (xs := ([(x0_1 / 256) % 256] : List Int)) (inner := [.int .u8 ((x0_1 / 256) % 256)]) (ok := fun _ => True) (okp := fun _ => True) ?hr ?hp (fun _ hk => hk) trivial (Below.refl _ _) (Nat.le_refl _) (by simp) ?_; (case hd => rfl); (case hg => rfl); (case hr => first | (go_simp; done) | (go_simp; rfl)); (case hp => exact (Reps.one (show Kd.M (Kd.int .u8) _ _ _ ((x0_1 / 256) % 256) [.int .u8 ((x0_1 / 256) % 256)] from rfl) (Reps.none _ _))); intro v571 w12 ho13 hb hg_ hnew_; clear hg_ hnew_; (first | rw [← Ny570.out] at ho13 | (simp only [Int.reduceToNat] at ho13; rw [← Ny570.out] at ho13)); have n0_ := Aside0.mk (Kd.R_elder' (by (with_reducible repeat (first | apply Kd.R_alloc | apply Kd.R_drewN | apply Kd.R_drew)); exact HO_3.out) (Kd.R_base ho13) hb); have n1_ := Aside0.mk (Kd.R_lower (Kd.R_new' ho13 (Kd.R_lt (by (with_reducible repeat (first | apply Kd.R_alloc | apply Kd.R_drewN | apply Kd.R_drew)); exact HO_3.out))) (below_size (by repeat (first | (with_reducible first | exact HB.out | apply below_alloc | apply pw_below_drewN | apply below_drew1) | exact HB.out)))); have n2_ := Aside0.mk (below_step (by repeat (first | (with_reducible first | exact HB.out | apply below_alloc | apply pw_below_drewN | apply below_drew1) | exact HB.out)) hb); clear HO_3; clear HB; have HO_3 := n0_; have HO572 := n1_; have HB := n2_; clear n0_ n1_ n2_; clear hb ho13; obtain ⟨Ao15, co15, eo15⟩ := Kd.R_slice HO_3.out; subst eo15) | ((with_reducible refine gate_builtin (b := .append) (xs := #[.tmp 17, .tmp 18]) rfl ?_); at_builtin; refine Kd.R_append_rows (Kd.int .u8) (w0 := w) w.heap.size rfl (.tmp 17) (.tmp 18) 25 5 (.int .u8 0) 1 rfl Tryz.underlying25 info5 rfl (by decide) (by omega) v571 y570 x3_1 _ _ _ (fun k_ => some k_ ≠ (.slice Ao15 x3_1.length co15 : Value).ownBlock) (fun _ => False) rfl rfl ?aO ?aR (fun _ _ h => h) (fun _ h => h.elim) ?aF ?aB ?aS ?aL ?_; (case aR => repeat (first | exact (Kd.R_reads' HO_3.out).2.2 | (with_reducible refine Kd.C_alloc ?_ _) | (with_reducible refine Kd.C_drewN ?_ _) | (with_reducible refine Kd.C_drew ?_))); (case aB => exact (by repeat (first | (with_reducible first | exact HB.out | apply below_alloc | apply pw_below_drewN | apply below_drew1) | exact HB.out))); (case aF => exact (fun k_ hk => Kd.fresh' (Kd.R_lt (by (with_reducible repeat (first | apply Kd.R_alloc | apply Kd.R_drewN | apply Kd.R_drew)); exact HO_3.out)) k_ hk)); (case aO => exact (by (with_reducible repeat (first | apply Kd.R_alloc | apply Kd.R_drewN | apply Kd.R_drew)); exact Kd.R_mono HO572.out (fun _ hk => hk.2))); (case aS => exact (below_size (by repeat (first | (with_reducible first | exact HB.out | apply below_alloc | apply pw_below_drewN | apply below_drew1) | exact HB.out)))); (case aL => have := LMc11.out; omega); intro v574 w14 ho hb hg hat; rw [← Ny573.out] at ho; have n0_ := Aside0.mk (Kd.R_after (ok := (fun _ => True)) (by (with_reducible repeat (first | apply Kd.R_alloc | apply Kd.R_drewN | apply Kd.R_drew)); exact HO_3.out) hg hat); have n1_ := Aside0.mk (hb); have n2_ := Aside0.mk (ho); clear HO_3; clear HB; clear HO572; have HO_3 := n0_; have HB := n1_; have HO575 := n2_; clear n0_ n1_ n2_; clear ho hb hg hat))
      go_roundg k1
      case measure => have := HK1.out; omega
      case rel => exact ⟨(x0_1 / 256), (y573), (by first | rfl | (simp; done) | (simp [*]; done)), H', ⟨by have := HK1.out; omega⟩, ⟨by (with_reducible repeat (first | apply Kd.R_alloc | apply Kd.R_drewN | apply Kd.R_drew)); exact Kd.R_mono HO575.out (fun _ hk => trivial)⟩, ⟨by repeat (first | (with_reducible first | exact HB.out | apply below_alloc | apply pw_below_drewN | apply below_drew1) | exact HB.out)⟩⟩
     ·rw [if_neg c11] at H
      exact absurd H (by simp)
    ·rw [if_neg c10] at H
     have c10b0 : decide (127 < x0_1) = false := decide_eq_false c10
     clear c10
     obtain rfl := Option.some.inj H
     go_wp2
     go_ret
     exact ⟨_, by first | rfl | (simp [errW_none, errW_some] <;> rfl) | (simp [*, errW_none, errW_some] <;> rfl), by (with_reducible repeat (first | apply Kd.R_alloc | apply Kd.R_drewN | apply Kd.R_drew)); exact HO_3.out, by repeat (first | (with_reducible first | exact HB.out | apply below_alloc | apply pw_below_drewN | apply below_drew1) | exact HB.out)⟩
end Go.Proofs.YtncanijjnhkgbaaGreatDoor.PMsgsPut
