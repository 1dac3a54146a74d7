/- ArbiterPlays answers true, by the walk of its function. -/
import Derived.Test.YtmoafjgogbcoeaaArLt
namespace Go.Proofs.Ytmoafjgogbcoeaa
open Go.RowKit
set_option linter.unusedVariables false
set_option linter.unusedSimpArgs false
set_option maxRecDepth 100000
theorem M.arN_in (m : Int) : -9223372036854775808 ≤ M.arN m ∧ M.arN m ≤ 9223372036854775807 := by unfold M.arN; omega
theorem play_os (m o : Int) (hm : -9223372036854775808 ≤ m ∧ m ≤ 9223372036854775807) (LL : List (List Bool)) (B : List Bool) (A1 : Option Addr) (n1 c1 : Nat) (A2 : Option Addr) (c2 : Nat) (hB : B.length ≤ 10000) (w : World) (ra : N2 w A1 n1 c1 LL) (rm : Ls 0 w (.slice A2 B.length c2) (bls B)) :
    Calls Try.prog 25 #[stV m o, .slice A1 n1 c1, .slice A2 B.length c2] w fun e w' => ∃ A c, e = .returned (.slice A (M.arOs m o LL B B.length).length c) ∧ Ls w.heap.size w' (.slice A (M.arOs m o LL B B.length).length c) (ints .i64 (M.arOs m o LL B B.length)) ∧ Below w.heap.size w w' := by
  refine (play_any m o hm LL B A1 n1 c1 A2 c2 hB w ra rm).mono ?_
  rintro e w' ⟨A, c, rfl, hl, hb⟩
  rw [M.arOs_len]
  exact ⟨A, c, rfl, hl, hb⟩
theorem rplay_os (m o : Int) (hm : -9223372036854775808 ≤ m ∧ m ≤ 9223372036854775807) (LL : List (List Bool)) (B : List Bool) (A1 : Option Addr) (n1 c1 : Nat) (A2 : Option Addr) (c2 : Nat) (hB : B.length ≤ 10000) (w : World) (ra : N2 w A1 n1 c1 LL) (rm : Ls 0 w (.slice A2 B.length c2) (bls B)) :
    Calls Try.prog 26 #[stV m o, .slice A1 n1 c1, .slice A2 B.length c2] w fun e w' => ∃ A c, e = .returned (.slice A (M.arOs m o LL B B.length).length c) ∧ Ls w.heap.size w' (.slice A (M.arOs m o LL B B.length).length c) (ints .i64 (M.arOs m o LL B B.length)) ∧ Below w.heap.size w w' := by
  refine (rplay_any m o hm LL B A1 n1 c1 A2 c2 hB w ra rm).mono ?_
  rintro e w' ⟨A, c, rfl, hl, hb⟩
  rw [M.arOs_len]
  exact ⟨A, c, rfl, hl, hb⟩
set_option maxHeartbeats 8000000 in
theorem plays_true (many : Int) (hm : -9223372036854775808 ≤ many ∧ many ≤ 9223372036854775807) (A : Option Addr) (n c : Nat) (LL : List (List Bool)) (A2 : Option Addr) (n2 c2 : Nat) (B : List Bool) (hn : B.length = n2) (w : World) (ra : N2 w A n c LL) (rm : Ls 0 w (.slice A2 n2 c2) (bls B)) :
    Calls Try.prog 4 #[.int .i64 many, .slice A n c, .slice A2 n2 c2] w fun e w' => e = .returned (.bool true) ∧ Below w.heap.size w w' := by
  subst hn
  have hA := ra.max
  have hL : B.length ≤ maxLen := arLen rm
  have c1 := fun W => arNew_any many hm W
  have c2' := fun W => rarNew_any many hm W
  have c3 := fun (hB : B.length ≤ 10000) W (hW : Below w.heap.size w W) => play_os (M.arN many) (M.arN many - 1) (M.arN_in many) LL B A n c A2 c2 hB W (ra.below hW) (rm.below hW)
  have c4 := fun (hB : B.length ≤ 10000) W (hW : Below w.heap.size w W) => rplay_os (M.arN many) (M.arN many - 1) (M.arN_in many) LL B A n c A2 c2 hB W (ra.below hW) (rm.below hW)
  have hlen := M.arOs_len (M.arN many) (M.arN many - 1) LL B B.length
  generalize M.arOs (M.arN many) (M.arN many - 1) LL B B.length = OS at c3 c4 hlen
  have c5 := fun (hO : OS.length ≤ maxLen) A1 c1 (q : Int) W (hW : Below w.heap.size w W) ro => arWaits_any OS hO A1 c1 LL A n c q W ro (ra.below hW)
  have c6 := fun (hO : OS.length ≤ maxLen) A1 c1 (q : Int) W (hW : Below w.heap.size w W) ro => rarWaits_any OS hO A1 c1 LL A n c q W ro (ra.below hW)
  have hO : OS.length ≤ maxLen := by omega
  clear hlen
  unfold stV at c1 c2' c3 c4
  generalize M.arN many = N at c1 c2' c3 c4
  generalize N - 1 = N1 at c1 c2' c3 c4
  have C1 := Lib.hid c1
  have C2 := Lib.hid c2'
  have C3 := Lib.hid c3
  have C4 := Lib.hid c4
  have C5 := Lib.hid (c5 hO)
  have C6 := Lib.hid (c6 hO)
  clear c1 c2' c3 c4 c5 c6
  have hS := St.start w.heap.size 0 0 w
  clear ra rm
  by_cases k1 : n ≤ 100
  · have k1' : ¬ ((100 : Int) < (n : Int)) := by omega
    by_cases k2 : B.length ≤ 100
    · have k2' : ¬ ((100 : Int) < (B.length : Int)) := by omega
      go_enter Try.func4, Try.ntmps4
      go_wp2_with fail
      refine (awake27_any _).mono ?_
      rintro e w1 ⟨rfl, hb⟩
      replace hS := hS.call hb
      clear hb
      go_wp2_with fail
      refine (C1.out _).mono ?_
      rintro e w1 ⟨rfl, hb⟩
      replace hS := hS.call hb
      clear hb
      go_wp2_with fail
      refine (C3.out (by omega) _ hS.below).mono ?_
      rintro e w1 ⟨A3, k3, rfl, hl, hb⟩
      replace hS := hS.callN hb hl
      try simp only [List.cons_append, List.nil_append, List.append_assoc] at hS
      have hshA3 := Lib.hid hl.shp
      clear hb hl
      go_wp2_with fail
      refine (C2.out _).mono ?_
      rintro e w1 ⟨rfl, hb⟩
      replace hS := hS.call hb
      clear hb
      go_wp2_with fail
      refine (C4.out (by omega) _ hS.below).mono ?_
      rintro e w1 ⟨A4, k4, rfl, hl, hb⟩
      replace hS := hS.callN hb hl
      try simp only [List.cons_append, List.nil_append, List.append_assoc] at hS
      have hshA4 := Lib.hid hl.shp
      clear hb hl
      go_wp2_with fail
      have HS0 := Lib.hid hS
      clear hS
      go_loopw [10] (fun i wr => ∃ j : Int, i = .int .i64 j ∧ -1 ≤ j ∧ j ≤ 9 ∧ St w.heap.size 0 0 w (entL (.slice A3 OS.length k3) (ints .i64 OS) ++ entL (.slice A4 OS.length k4) (ints .i64 OS)) wr) (fun i _ => (9 - intOf i).toNat)
      case atStart => exact ⟨-1, rfl, by omega, by omega, HS0.out⟩
      case round =>
        clear HS0
        obtain ⟨j, rfl, hj1, hj2, hS⟩ := hrel
        by_cases k5 : j < 9
        · have hl3 := hS.ls hshA3.out (fun e he => List.mem_append_left _ he)
          have hl4 := hS.ls hshA4.out (fun e he => List.mem_append_right _ he)
          have H5 := Lib.hid (C5.out _ _ j _ hS.below hl3)
          have H6 := Lib.hid (C6.out _ _ j _ hS.below hl4)
          clear hl3 hl4
          generalize M.arWaits OS LL j = R at H5 H6
          go_wp2_with fail
          refine H5.out.mono ?_
          rintro e w2 ⟨rfl, rfl⟩
          go_wp2_with fail
          refine H6.out.mono ?_
          rintro e w2 ⟨rfl, rfl⟩
          go_wp2_with fail
          go_round
          case rel => exact ⟨j + 1, by simp, by omega, by omega, hS⟩
          case measure => simp [intOf]; omega
        · have hl3 := hS.ls hshA3.out (fun e he => List.mem_append_left _ he)
          have hl4 := hS.ls hshA4.out (fun e he => List.mem_append_right _ he)
          have H7 := Lib.hid (arInts_any OS hO _ _ _ _ _ hl3 hl4)
          clear hl3 hl4
          go_wp2_with fail
          refine H7.out.mono ?_
          rintro e w2 ⟨rfl, hb⟩
          replace hS := hS.call hb
          go_wp2_with fail
          go_returns
          exact ⟨rfl, hS.below⟩
    · have k2' : (100 : Int) < (B.length : Int) := by omega
      go_enter Try.func4, Try.ntmps4
      go_wp2_with fail
      refine (awake27_any _).mono ?_
      rintro e w1 ⟨rfl, hb⟩
      replace hS := hS.call hb
      clear hb
      go_wp2_with fail
      go_returns
      exact ⟨rfl, hS.below⟩
  · have k1' : (100 : Int) < (n : Int) := by omega
    go_enter Try.func4, Try.ntmps4
    go_wp2_with fail
    refine (awake27_any _).mono ?_
    rintro e w1 ⟨rfl, hb⟩
    replace hS := hS.call hb
    clear hb
    go_wp2_with fail
    go_returns
    exact ⟨rfl, hS.below⟩
end Go.Proofs.Ytmoafjgogbcoeaa
