/- Contract of word.Distance. -/
import Derived.Test.YtpdpiihnafkgjaaWordA
namespace Go.Proofs.Ytpdpiihnafkgjaa
open Go Go.RowKit Rdn

/-- The cells of element i of a slice of cells. -/
theorem cell_at {S : Nat → Prop} {w : World} {l : List Cell} {A : Option Addr} {n c : Nat} (h : SlV Cell.sh S w l (.slice A n c)) {i : Nat} (hi : i < l.length) :
    ∃ b o, A = some ⟨b, o, none⟩ ∧ b < w.heap.size ∧ w.cell? ⟨b, o + i * 2, none⟩ = some (.int .u8 l[i].tag) ∧ w.cell? ⟨b, o + i * 2 + 1, none⟩ = some (.int .u16 l[i].val) ∧
      0 ≤ l[i].tag ∧ l[i].tag ≤ 255 ∧ 0 ≤ l[i].val ∧ l[i].val ≤ 65535 := by
  obtain ⟨b, o, cs, hA, _, hlt, hr, ha⟩ := h.at_ hi
  obtain ⟨rfl, h1, h2⟩ := Cell.rd_iff.1 hr
  exact ⟨b, o, hA, hlt, ha.c0, ha.tl.c0, h1.1, h1.2, h2.1, h2.2⟩

set_option maxHeartbeats 1000000 in
theorem distance_any (a b : List Cell) (va vb : Value) (S : Nat → Prop) (w : World) (ha : SlV Cell.sh S w a va) (hb : SlV Cell.sh S w b vb) :
    Calls Try.prog 23 #[va, vb] w fun e w' => e = .returned (.int .i64 (dist a b)) ∧ ∃ n, w' = w.drewN n := by
  obtain ⟨A, c, rfl, hc, hm⟩ := ha.shape
  obtain ⟨A', c', rfl, hc', hm'⟩ := hb.shape
  obtain ⟨M, hM⟩ : ∃ M, M = max a.length b.length := ⟨_, rfl⟩
  have hmx : (if a.length < b.length then (b.length : Int) else (a.length : Int)) = (M : Int) := by subst hM; split <;> omega
  have hMa : a.length ≤ M := by omega
  have hMb : b.length ≤ M := by omega
  have hMm : M ≤ 140737488355328 := by omega
  have HM := Lib.hid hM
  clear hM
  go_enter Try.func23, Try.ntmps23
  go_wp2
  clear hmx
  go_loopw [5, 12] (fun n i wr => ∃ k : Nat, k ≤ M ∧ i = .int .i64 k ∧ n = .int .i64 (dTo a b k) ∧ ∃ q, wr = w.drewN q) (fun _ i _ => M - (intOf i).toNat)
  case atStart => exact ⟨0, by omega, rfl, rfl, 0, rfl⟩
  case round =>
    obtain ⟨k, hk, rfl, rfl, q, rfl⟩ := hrel
    have hd := dTo_le a b k
    by_cases hkM : k < M
    · by_cases hboth : k < a.length ∧ k < b.length
      · obtain ⟨hka, hkb⟩ := hboth
        obtain ⟨g, o, rfl, _, c0, c1, t0, t1, x0, x1⟩ := cell_at ha hka
        obtain ⟨g', o', rfl, _, c0', c1', t0', t1', x0', x1'⟩ := cell_at hb hkb
        have hx := xor16 x0 x1 x0' x1'
        obtain ⟨X, hX⟩ : ∃ X, X = a[k].val.toNat ^^^ b[k].val.toNat := ⟨_, rfl⟩
        rw [← hX] at hx
        have HX := Lib.hid hX
        clear hX
        have hXl : X ≤ 65535 := by have := HX.out; rw [this]; have := xor16_le x0 x1 x0' x1'; omega
        have ho := ones_le 16 X
        have HD := Lib.hid (dAt_both hka hkb)
        have d1 : decide (a.length ≤ k) = false := by simp; omega
        have d2 : decide (b.length ≤ k) = false := by simp; omega
        obtain ⟨tb, htb, htv⟩ : ∃ tb : Bool, (a[k].tag != b[k].tag) = tb ∧ (if a[k].tag = b[k].tag then 0 else 1) = (if tb then 1 else 0) := ⟨_, rfl, by by_cases h : a[k].tag = b[k].tag <;> simp [h]⟩
        have HT := Lib.hid htv
        clear htv
        cases tb
        all_goals
          go_wp2_with fail
          go_quiet ((go_at_call 18; exact quiet_add (wordones_any _ _ hXl)))
          go_wp2_with fail
          go_quiet (fail)
          go_wp2_with fail
          go_roundw
          case rel => exact ⟨k + 1, by omega, by go_num, int_eq (by have e := HD.out; rw [← HX.out, HT.out] at e; simp only [dTo, e]; simp; try omega), _, rfl⟩
          case measure => simp [intOf]; omega
      · have hone : a.length ≤ k ∨ b.length ≤ k := by omega
        have H1 := Lib.hid (dAt_one (a := a) (b := b) (by have := HM.out; omega) hone)
        by_cases h1 : a.length ≤ k
        · have d1 : decide (a.length ≤ k) = true := by simp; omega
          go_wp2_with fail
          go_roundw
          case rel => exact ⟨k + 1, by omega, by go_num, int_eq (by have e := H1.out; simp only [dTo, e]; omega), _, rfl⟩
          case measure => simp [intOf]; omega
        · have d1 : decide (a.length ≤ k) = false := by simp; omega
          have d2 : decide (b.length ≤ k) = true := by simp; omega
          go_wp2_with fail
          go_roundw
          case rel => exact ⟨k + 1, by omega, by go_num, int_eq (by have e := H1.out; simp only [dTo, e]; omega), _, rfl⟩
          case measure => simp [intOf]; omega
    · obtain rfl : k = M := by omega
      go_wp2_with fail
      go_ret
      exact ⟨ret_int (by unfold dist; rw [← HM.out]), _, rfl⟩
end Go.Proofs.Ytpdpiihnafkgjaa
