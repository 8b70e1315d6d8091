/- The law JournalByte. -/
import Derived.Test.YtdjjhajkpfiagaaJ11
import Derived.Test.YtdjjhajkpfiagaaFnv
namespace Go.Proofs.Ytdjjhajkpfiagaa
open Go Go.RowKit Rdn Rdn.Dp
set_option linter.unusedVariables false
set_option linter.unusedSimpArgs false
def m_jbyte : MC := .seq (.reg [⟨(some 6), none, (.p (.mov (.c (.bool false))))⟩])
 (.seq (.seq (.reg [⟨(some 13), none, (.p (.mov (.t 0)))⟩, ⟨(some 14), none, (.call 12 [(.t 13)])⟩, ⟨(some 15), none, (.p (.un .not (.t 14)))⟩])
 (.cond (.t 15) (.seq (.reg [⟨(some 16), none, (.call 13 [])⟩, ⟨(some 6), none, (.p (.mov (.t 16)))⟩])
 (.ret)) (.skip)))
 (.seq (.reg [⟨(some 17), none, (.p (.mov (.t 0)))⟩, ⟨(some 18), none, (.call 15 [(.t 17)])⟩, ⟨(some 19), none, (.call 14 [(.t 18), (.c (.int .i64 3))])⟩, ⟨(some 7), none, (.p (.mov (.t 19)))⟩])
 (.seq (.seq (.reg [⟨(some 20), none, (.p (.mov (.t 7)))⟩, ⟨(some 21), none, (.p (.len (.t 20)))⟩, ⟨(some 22), none, (.p (.bin 0 .eql (.t 21) (.c (.int .i64 0))))⟩])
 (.cond (.t 22) (.seq (.reg [⟨(some 23), none, (.call 13 [])⟩, ⟨(some 6), none, (.p (.mov (.t 23)))⟩])
 (.ret)) (.skip)))
 (.seq (.reg [⟨(some 25), none, (.p (.mov (.t 7)))⟩, ⟨(some 26), none, (.p (.idxA 4 (.t 25) (.c (.int .i64 0))))⟩, ⟨(some 27), none, (.p (.load true 4 (.t 26)))⟩, ⟨(some 28), none, (.call 16 [(.t 27)])⟩, ⟨(some 24), none, (.p (.mov (.t 28)))⟩, ⟨(some 29), none, (.p (.ext (.t 24) 0))⟩, ⟨(some 30), none, (.p (.ext (.t 24) 1))⟩, ⟨(some 8), none, (.p (.mov (.t 29)))⟩, ⟨(some 9), none, (.p (.mov (.t 30)))⟩])
 (.seq (.seq (.reg [⟨(some 31), none, (.p (.mov (.t 9)))⟩, ⟨(some 32), none, (.p (.bin 0 .neq (.t 31) (.c (.int .i64 0))))⟩, ⟨(some 33), none, (.p (.mov (.t 32)))⟩, ⟨(some 34), (some (33, false)), (.p (.mov (.t 8)))⟩, ⟨(some 35), (some (33, false)), (.p (.len (.t 34)))⟩, ⟨(some 36), (some (33, false)), (.p (.bin 0 .lss (.t 35) (.c (.int .i64 12))))⟩, ⟨(some 37), none, (.p (.pick (.t 33) (.c (.bool true)) (.t 36)))⟩])
 (.cond (.t 37) (.seq (.reg [⟨(some 6), none, (.p (.mov (.c (.bool false))))⟩])
 (.ret)) (.skip)))
 (.seq (.reg [⟨(some 38), none, (.p (.mov (.t 8)))⟩, ⟨(some 39), none, (.p (.mov (.t 1)))⟩, ⟨(some 40), none, (.p (.mov (.t 8)))⟩, ⟨(some 41), none, (.p (.len (.t 40)))⟩, ⟨(some 42), none, (.p (.bin 0 .sub (.t 41) (.c (.int .i64 2))))⟩, ⟨(some 43), none, (.call 17 [(.t 39), (.t 42)])⟩, ⟨(some 44), none, (.p (.bin 0 .add (.c (.int .i64 2)) (.t 43)))⟩, ⟨(some 45), none, (.p (.idxA 1 (.t 38) (.t 44)))⟩, ⟨(some 46), none, (.p (.load false 1 (.t 45)))⟩, ⟨(some 47), none, (.p (.mov (.t 2)))⟩, ⟨(some 48), none, (.p (.bin 0 .rem (.t 47) (.c (.int .u8 255))))⟩, ⟨(some 49), none, (.p (.bin 0 .add (.c (.int .u8 1)) (.t 48)))⟩, ⟨(some 50), none, (.p (.bin 0 .xor (.t 46) (.t 49)))⟩, ⟨(some 51), none, (.p (.idxA 1 (.t 38) (.t 44)))⟩, ⟨none, none, (.m (.store 1 (.t 51) (.t 50)))⟩])
 (.seq (.reg [⟨(some 53), none, (.p (.mov (.t 8)))⟩, ⟨(some 54), none, (.call 18 [(.t 53)])⟩, ⟨(some 52), none, (.p (.mov (.t 54)))⟩, ⟨(some 55), none, (.p (.ext (.t 52) 0))⟩, ⟨(some 56), none, (.p (.ext (.t 52) 1))⟩, ⟨(some 57), none, (.p (.ext (.t 52) 2))⟩, ⟨(some 10), none, (.m (.alloc 34 (.agg [.int .i64 0, .int .i64 0, .int .i64 0, .nilS])))⟩, ⟨none, none, (.m (.store 4 (.t 10) (.t 55)))⟩, ⟨(some 11), none, (.p (.mov (.t 56)))⟩, ⟨(some 12), none, (.p (.mov (.t 57)))⟩])
 (.seq (.reg [⟨(some 58), none, (.p (.mov (.t 12)))⟩, ⟨(some 59), none, (.p (.bin 0 .eql (.t 58) (.c (.int .i64 5))))⟩, ⟨(some 60), none, (.p (.mov (.t 59)))⟩, ⟨(some 61), (some (60, true)), (.call 13 [])⟩, ⟨(some 62), none, (.p (.pick (.t 60) (.t 61) (.c (.bool false))))⟩, ⟨(some 6), none, (.p (.mov (.t 62)))⟩])
 (.ret)))))))))
theorem m_jbyte_ok : compF Try.prog 3 = some (63, m_jbyte, [.mov (.t 6)]) := by kernel_rfl
theorem fstep_fnv {s b : Int} (h0 : 0 ≤ s) (h1 : s < 4294967296) (h2 : 0 ≤ b) (h3 : b < 256) : fstep s b = (fnv1 s.toNat b.toNat : Nat) := by
  have e := (bxor_nat (k := .u32) rfl h0 (by simpa [IntKind.bits] using h1) h2 (by simp [IntKind.bits]; omega)).1
  unfold fstep fnv1
  rw [e]
  omega
def byteL (l : List Int) : Prop := ∀ b ∈ l, 0 ≤ b ∧ b < 256
theorem dadd_cons (s b : Int) (l : List Int) : dadd s (b :: l) = dadd (fstep s b) l := by simp only [dadd, List.foldl_cons]
theorem dadd_fnv {l : List Int} (h : byteL l) : ∀ {s : Int}, 0 ≤ s → s < 4294967296 → dadd s l = (fnv s.toNat l : Nat) := by
  induction l with
  | nil =>
    intro s h0 h1
    simp only [dadd, List.foldl_nil, fnv]
    omega
  | cons b l ih =>
    intro s h0 h1
    have hb := h b (by simp)
    have e := fstep_fnv h0 h1 hb.1 hb.2
    have hlt := fnv1_lt s.toNat b.toNat
    have e2 := ih (fun x hx => h x (by simp [hx])) (s := fstep s b) (by rw [e]; omega) (by rw [e]; omega)
    rw [dadd_cons, e2, e, Int.toNat_natCast, fnv]
theorem dadd_set_ne {l : List Int} {k : Nat} {x s : Int} (h0 : 0 ≤ s) (h1 : s < 4294967296) (hl : byteL l) (hk : k < l.length) (hx0 : 0 ≤ x) (hx1 : x < 256) (hne : l[k]! ≠ x) : dadd s l ≠ dadd s (l.set k x) := by
  have hl2 : byteL (l.set k x) := fun b hb => by
    rcases List.mem_or_eq_of_mem_set hb with h | h
    · exact hl b h
    · omega
  rw [dadd_fnv hl h0 h1, dadd_fnv hl2 h0 h1]
  intro h
  have h := Int.ofNat.inj h
  have := fnv_set l k x (s := s.toNat) (by omega) (fun y hy => by have := hl y hy; omega) (by omega) hk h
  have h3 := hl l[k] (List.getElem_mem hk)
  rw [getElem!_pos l k hk] at hne
  omega
set_option maxHeartbeats 4000000 in
theorem join_own (l : List (List Int)) (hb : l.flatten.length ≤ 140737488351232) : Fnc Try.prog 44 [.sl false 1 (l.map bsV)] (fun x obs => x = .own 0 0 ∧ obs = [⟨.row 5, true, 0, .arr 1 (u8s l.flatten)⟩]) := by
  refine Fnc.intro m_join_ok (by simp) fun W S => ?_
  unfold m_join
  simp only [ents, Nat.zero_add, Nat.reduceAdd]
  repeat (first | refine And.intro (by omega) ?_ | refine And.intro rfl ?_ | refine ev_ctl rfl rfl ?_ | refine evr_nil ?_ | refine evw_nil (by kernel_rfl) ?_ | (simp (disch := omega) only [takeAll, Nat.min_eq_left, Nat.min_eq_right, if_pos, if_neg, getD_map, wrapI64, modIn, fdivE, tmodE, tdivE, decT, decF, beqT, beqF, bneT, bneF, Int.toNat_natCast]; try simp only [go_sem]) | refine ev_condTb rfl (by simp <;> omega) ?_ | refine ev_condFb rfl (by simp <;> omega) ?_ | ((first | refine ev_region ?_ | refine evr_go rfl ?_ | refine evw_go rfl ?_ | refine ev_dr0 mixed rfl (by kernel_rfl) ?_ | refine ev_dr1 mixed rfl (by kernel_rfl) ?_ | refine ev_dr2 mixed rfl (by kernel_rfl) ?_); simp only [go_sem]))
  (first | refine callX (concat_fn l hb) ?_ | refine callXw (concat_fn l hb) ?_); simp only [go_sem]
  repeat (first | refine And.intro (by omega) ?_ | refine And.intro rfl ?_ | refine ev_ctl rfl rfl ?_ | refine evr_nil ?_ | refine evw_nil (by kernel_rfl) ?_ | (simp (disch := omega) only [takeAll, Nat.min_eq_left, Nat.min_eq_right, if_pos, if_neg, getD_map, wrapI64, modIn, fdivE, tmodE, tdivE, decT, decF, beqT, beqF, bneT, bneF, Int.toNat_natCast]; try simp only [go_sem]) | refine ev_condTb rfl (by simp <;> omega) ?_ | refine ev_condFb rfl (by simp <;> omega) ?_ | ((first | refine ev_region ?_ | refine evr_go rfl ?_ | refine evw_go rfl ?_ | refine ev_dr0 mixed rfl (by kernel_rfl) ?_ | refine ev_dr1 mixed rfl (by kernel_rfl) ?_ | refine ev_dr2 mixed rfl (by kernel_rfl) ?_); simp only [go_sem]))
  refine ret m_join_ok [0] ?_; (first | (simp only [go_sem]; done) | (simp only [go_sem]; ((try dsimp only); (repeat' (refine And.intro ?_ ?_)) <;> first | with_reducible rfl | (simp only [go_sem]; done) | (simp only [go_sem]; rfl) | (simp only []; (try simp only [go_sem]); first | done | rfl) | (simp only [go_sem]; simp []; done) | (simp []; done) | rfl)))
theorem le4_inj {a b : Int} (h : le4 a = le4 b) : a = b := by
  unfold le4 at h
  simp only [List.cons.injEq, and_true] at h
  omega
theorem core_bytes {n : Note} (h : okNote n) : byteL (core n) := by
  have hb := sEnc_bytes (n := n) h.2.2.2.2.2.2.2
  rw [sEnc, if_pos h.chk] at hb
  intro x hx
  have := inK_u8' (hb x (by show x ∈ encB n; unfold encB; exact List.mem_append_left _ hx))
  omega
theorem at_take {l : List Int} {k j : Nat} (h : j < k) : (l.take k)[j]! = l[j]! := by simp [List.getElem?_take, h]
/-- A note of which a byte behind its length was changed is not read. -/
theorem dec_bad {n : Note} (hn : okNote n) {p : Nat} {v : Int} (h2 : 2 ≤ p) (hp : p < (encB n).length) (v0 : 0 ≤ v) (v1 : v < 256) (hne : (encB n)[p]! ≠ v) : (sDec ((encB n).set p v)).2.2 = 5 := by
  have ok := hn.chk
  obtain ⟨h1, h2', h3, h4, h5, h6, h7⟩ := chkN_0 ok
  have hl : ((encB n).set p v).length = 12 + n.bytes.length := by rw [List.length_set, encB_len]
  have hl0 := encB_len n
  have hk : kOf ((encB n).set p v) = 6 + (n.bytes.length : Int) := by
    have e0 : ((encB n).set p v)[0]! = (encB n)[0]! := by simp [List.getElem?_set, show p ≠ 0 by omega]
    have e1 : ((encB n).set p v)[1]! = (encB n)[1]! := by simp [List.getElem?_set, show p ≠ 1 by omega]
    unfold kOf
    rw [e0, e1, encB_list]
    simp only [List.getElem!_cons_zero, List.getElem!_cons_succ]
    omega
  have hS : sDec ((encB n).set p v) = if (sEnc (noteOf ((encB n).set p v))).2 = 0 ∧ (sEnc (noteOf ((encB n).set p v))).1 = ((encB n).set p v).take (kOf ((encB n).set p v) + 6).toNat then (noteOf ((encB n).set p v), kOf ((encB n).set p v) + 6, 0) else (n0, 0, 5) := by
    rw [sDec, hl, hk, if_neg (by omega), if_neg (by omega), if_neg (by omega)]
  rw [hS, if_neg]
  rintro ⟨c1, c2⟩
  have hlen : (noteOf ((encB n).set p v)).bytes.length = n.bytes.length := by
    unfold noteOf
    rw [hk]
    simp only [List.length_drop, List.length_take, hl]
    omega
  generalize noteOf ((encB n).set p v) = n' at c1 c2 hlen
  have ok' : chkN n' = 0 := by
    unfold sEnc at c1
    split at c1
    · assumption
    · exact c1
  rw [sEnc, if_pos ok', hk, show (6 + (n.bytes.length : Int) + 6).toNat = 12 + n.bytes.length by omega, List.take_of_length_le (by omega)] at c2
  have c2 : encB n' = (encB n).set p v := c2
  have cl := core_len n
  have cl' := core_len n'
  have s0 := dadd_lt (s := 2166136261) (by omega) (by omega) (core n)
  have t1 : core n' = ((encB n).set p v).take (8 + n.bytes.length) := by
    rw [← c2]; unfold encB; rw [List.take_left' (by omega)]
  have t2 : le4 (dadd 2166136261 (core n')) = ((encB n).set p v).drop (8 + n.bytes.length) := by
    rw [← c2]; unfold encB; rw [List.drop_left' (by omega)]
  have u1 : (encB n).take (8 + n.bytes.length) = core n := by unfold encB; rw [List.take_left' (by omega)]
  have u2 : (encB n).drop (8 + n.bytes.length) = le4 (dadd 2166136261 (core n)) := by unfold encB; rw [List.drop_left' (by omega)]
  by_cases hc : p < 8 + n.bytes.length
  · rw [List.take_set, u1] at t1
    rw [List.drop_set_of_lt hc, u2] at t2
    have := le4_inj t2
    rw [t1] at this
    refine dadd_set_ne (by omega) (by omega) (core_bytes hn) (by omega) v0 v1 ?_ this.symm
    rw [← u1, at_take hc]
    exact hne
  · have e : core n' = core n := by rw [t1, List.take_set, u1, List.set_eq_of_length_le (by omega)]
    have e2 : encB n = (encB n).set p v := by rw [← c2]; unfold encB; rw [e]
    apply hne
    rw [e2]
    simp [hp]
theorem bxor_ne {x y : Int} (hx : 0 ≤ x ∧ x ≤ 255) (hy : 1 ≤ y ∧ y ≤ 255) : 0 ≤ bxor .u8 x y ∧ bxor .u8 x y < 256 ∧ x ≠ bxor .u8 x y := by
  have e := bxor_nat (k := .u8) rfl hx.1 (by simp [IntKind.bits]; omega) (show (0 : Int) ≤ y by omega) (by simp [IntKind.bits]; omega)
  have e2 : x.toNat ^^^ y.toNat < 256 := by simpa [IntKind.bits] using e.2
  rw [e.1]
  refine ⟨by omega, by omega, fun h => ?_⟩
  have h : x.toNat ^^^ y.toNat = x.toNat := by omega
  have h2 : x.toNat ^^^ (x.toNat ^^^ y.toNat) = y.toNat := by rw [← Nat.xor_assoc, Nat.xor_self, Nat.zero_xor]
  rw [h, Nat.xor_self] at h2
  omega
attribute [local irreducible] core le4 dadd encB chkN
set_option maxHeartbeats 4000000 in
theorem wenc_own (n : Note) (ok : chkN n = 0) : Fnc Try.prog 16 [.agg (noteL false n)] (fun x obs => x = .tup [.own 0 0, .int .i64 0] ∧ obs = [⟨.row 5, true, 0, .arr 1 (u8s (encB n))⟩]) := by
  have hC := wchk_fn n
  rw [ok] at hC
  obtain ⟨h1, h2, h3, h4, h5, h6, h7⟩ := chkN_0 ok
  have j1 := join_fn [[(6 + (n.bytes.length : Int)) % 256, (6 + (n.bytes.length : Int)) / 256, n.kind, n.state], le4 n.number, n.bytes] (by rw [core_flat, core_len]; omega)
  rw [core_flat] at j1
  have j2 := join_own [core n, le4 (dadd 2166136261 (core n))] (by rw [enc_flat, encB_len]; omega)
  rw [enc_flat] at j2
  have s1 := dadd_lt (s := 2166136261) (by omega) (by omega) (core n)
  refine Fnc.intro m_wenc_ok (by simp) fun W S => ?_
  unfold m_wenc
  simp only [ents, Nat.zero_add, Nat.reduceAdd]
  repeat (first | refine And.intro (by omega) ?_ | refine And.intro rfl ?_ | refine ev_ctl rfl rfl ?_ | refine evr_nil ?_ | refine evw_nil (by kernel_rfl) ?_ | (simp (disch := omega) only [takeAll, Nat.min_eq_left, Nat.min_eq_right, if_pos, if_neg, getD_map, wrapI64, modIn, fdivE, tmodE, tdivE, decT, decF, beqT, beqF, bneT, bneF, Int.toNat_natCast]; try simp only [go_sem]) | refine ev_condTb rfl (by simp <;> omega) ?_ | refine ev_condFb rfl (by simp <;> omega) ?_ | ((first | refine ev_region ?_ | refine evr_go rfl ?_ | refine evw_go rfl ?_ | refine ev_dr0 mixed rfl (by kernel_rfl) ?_ | refine ev_dr1 mixed rfl (by kernel_rfl) ?_ | refine ev_dr2 mixed rfl (by kernel_rfl) ?_); simp only [go_sem]))
  (first | refine callD (hC) ?_ | refine callDw (hC) ?_); simp only [go_sem]
  repeat (first | refine And.intro (by omega) ?_ | refine And.intro rfl ?_ | refine ev_ctl rfl rfl ?_ | refine evr_nil ?_ | refine evw_nil (by kernel_rfl) ?_ | (simp (disch := omega) only [takeAll, Nat.min_eq_left, Nat.min_eq_right, if_pos, if_neg, getD_map, wrapI64, modIn, fdivE, tmodE, tdivE, decT, decF, beqT, beqF, bneT, bneF, Int.toNat_natCast]; try simp only [go_sem]) | refine ev_condTb rfl (by simp <;> omega) ?_ | refine ev_condFb rfl (by simp <;> omega) ?_ | ((first | refine ev_region ?_ | refine evr_go rfl ?_ | refine evw_go rfl ?_ | refine ev_dr0 mixed rfl (by kernel_rfl) ?_ | refine ev_dr1 mixed rfl (by kernel_rfl) ?_ | refine ev_dr2 mixed rfl (by kernel_rfl) ?_); simp only [go_sem]))
  (first | refine callD (low_fn n.number) ?_ | refine callDw (low_fn n.number) ?_); simp only [go_sem]
  repeat (first | refine And.intro (by omega) ?_ | refine And.intro rfl ?_ | refine ev_ctl rfl rfl ?_ | refine evr_nil ?_ | refine evw_nil (by kernel_rfl) ?_ | (simp (disch := omega) only [takeAll, Nat.min_eq_left, Nat.min_eq_right, if_pos, if_neg, getD_map, wrapI64, modIn, fdivE, tmodE, tdivE, decT, decF, beqT, beqF, bneT, bneF, Int.toNat_natCast]; try simp only [go_sem]) | refine ev_condTb rfl (by simp <;> omega) ?_ | refine ev_condFb rfl (by simp <;> omega) ?_ | ((first | refine ev_region ?_ | refine evr_go rfl ?_ | refine evw_go rfl ?_ | refine ev_dr0 mixed rfl (by kernel_rfl) ?_ | refine ev_dr1 mixed rfl (by kernel_rfl) ?_ | refine ev_dr2 mixed rfl (by kernel_rfl) ?_); simp only [go_sem]))
  (first | refine callD (j1) ?_ | refine callDw (j1) ?_); simp only [go_sem, bsV]
  repeat (first | refine And.intro (by omega) ?_ | refine And.intro rfl ?_ | refine ev_ctl rfl rfl ?_ | refine evr_nil ?_ | refine evw_nil (by kernel_rfl) ?_ | (simp (disch := omega) only [takeAll, Nat.min_eq_left, Nat.min_eq_right, if_pos, if_neg, getD_map, wrapI64, modIn, fdivE, tmodE, tdivE, decT, decF, beqT, beqF, bneT, bneF, Int.toNat_natCast]; try simp only [go_sem]) | refine ev_condTb rfl (by simp <;> omega) ?_ | refine ev_condFb rfl (by simp <;> omega) ?_ | ((first | refine ev_region ?_ | refine evr_go rfl ?_ | refine evw_go rfl ?_ | refine ev_dr0 mixed rfl (by kernel_rfl) ?_ | refine ev_dr1 mixed rfl (by kernel_rfl) ?_ | refine ev_dr2 mixed rfl (by kernel_rfl) ?_); simp only [go_sem]))
  (first | refine callD (add_fn 2166136261 (core n)) ?_ | refine callDw (add_fn 2166136261 (core n)) ?_); simp only [go_sem]
  repeat (first | refine And.intro (by omega) ?_ | refine And.intro rfl ?_ | refine ev_ctl rfl rfl ?_ | refine evr_nil ?_ | refine evw_nil (by kernel_rfl) ?_ | (simp (disch := omega) only [takeAll, Nat.min_eq_left, Nat.min_eq_right, if_pos, if_neg, getD_map, wrapI64, modIn, fdivE, tmodE, tdivE, decT, decF, beqT, beqF, bneT, bneF, Int.toNat_natCast]; try simp only [go_sem]) | refine ev_condTb rfl (by simp <;> omega) ?_ | refine ev_condFb rfl (by simp <;> omega) ?_ | ((first | refine ev_region ?_ | refine evr_go rfl ?_ | refine evw_go rfl ?_ | refine ev_dr0 mixed rfl (by kernel_rfl) ?_ | refine ev_dr1 mixed rfl (by kernel_rfl) ?_ | refine ev_dr2 mixed rfl (by kernel_rfl) ?_); simp only [go_sem]))
  (first | refine callD (low_fn (dadd 2166136261 (core n))) ?_ | refine callDw (low_fn (dadd 2166136261 (core n))) ?_); simp only [go_sem]
  repeat (first | refine And.intro (by omega) ?_ | refine And.intro rfl ?_ | refine ev_ctl rfl rfl ?_ | refine evr_nil ?_ | refine evw_nil (by kernel_rfl) ?_ | (simp (disch := omega) only [takeAll, Nat.min_eq_left, Nat.min_eq_right, if_pos, if_neg, getD_map, wrapI64, modIn, fdivE, tmodE, tdivE, decT, decF, beqT, beqF, bneT, bneF, Int.toNat_natCast]; try simp only [go_sem]) | refine ev_condTb rfl (by simp <;> omega) ?_ | refine ev_condFb rfl (by simp <;> omega) ?_ | ((first | refine ev_region ?_ | refine evr_go rfl ?_ | refine evw_go rfl ?_ | refine ev_dr0 mixed rfl (by kernel_rfl) ?_ | refine ev_dr1 mixed rfl (by kernel_rfl) ?_ | refine ev_dr2 mixed rfl (by kernel_rfl) ?_); simp only [go_sem]))
  (first | refine callX (j2) ?_ | refine callXw (j2) ?_); simp only [go_sem, bsV]
  repeat (first | refine And.intro (by omega) ?_ | refine And.intro rfl ?_ | refine ev_ctl rfl rfl ?_ | refine evr_nil ?_ | refine evw_nil (by kernel_rfl) ?_ | (simp (disch := omega) only [takeAll, Nat.min_eq_left, Nat.min_eq_right, if_pos, if_neg, getD_map, wrapI64, modIn, fdivE, tmodE, tdivE, decT, decF, beqT, beqF, bneT, bneF, Int.toNat_natCast]; try simp only [go_sem]) | refine ev_condTb rfl (by simp <;> omega) ?_ | refine ev_condFb rfl (by simp <;> omega) ?_ | ((first | refine ev_region ?_ | refine evr_go rfl ?_ | refine evw_go rfl ?_ | refine ev_dr0 mixed rfl (by kernel_rfl) ?_ | refine ev_dr1 mixed rfl (by kernel_rfl) ?_ | refine ev_dr2 mixed rfl (by kernel_rfl) ?_); simp only [go_sem]))
  refine ret m_wenc_ok [2] ?_; (first | (simp only [go_sem]; done) | (simp only [go_sem]; ((try dsimp only); (repeat' (refine And.intro ?_ ?_)) <;> first | with_reducible rfl | (simp only [go_sem]; done) | (simp only [go_sem]; rfl) | (simp only []; (try simp only [go_sem]); first | done | rfl) | (simp only [go_sem]; simp []; done) | (simp []; done) | rfl)))
attribute [local irreducible] dns sDec
set_option maxHeartbeats 8000000 in
theorem jbyte_fn (l : List Int) (a y : Int) : Fnc Try.prog 3 [.sl false 1 (i64s l), .int .i64 a, .int .u8 y] (fun x obs => x = .bool true) := by
  refine Fnc.wf fun hw => ?_
  simp only [V.wfs, V.wf, wfs_map, List.length_map] at hw
  have hy := inK_u8' hw.2.2.1
  clear hw
  by_cases h1 : l.length ≤ 400
  · have hN := notes_fn l 0 3 (by omega) (by omega) (by omega)
    have hok := dns_ok l 0 3
    have hln := dns_len (l := l) (k := 0) (n := 3) (by omega)
    generalize dns l 0 3 = q at hN hok hln
    by_cases c0 : q.1.length = 0
    · skip
      refine Fnc.intro m_jbyte_ok (by simp) fun W S => ?_
      unfold m_jbyte
      simp only [ents, Nat.zero_add, Nat.reduceAdd]
      repeat (first | refine And.intro (by omega) ?_ | refine And.intro rfl ?_ | refine ev_ctl rfl rfl ?_ | refine evr_nil ?_ | refine evw_nil (by kernel_rfl) ?_ | (simp (disch := omega) only [takeAll, Nat.min_eq_left, Nat.min_eq_right, if_pos, if_neg, getD_map, wrapI64, modIn, fdivE, tmodE, tdivE, decT, decF, beqT, beqF, bneT, bneF, Int.toNat_natCast]; try simp only [go_sem]) | refine ev_condTb rfl (by simp <;> omega) ?_ | refine ev_condFb rfl (by simp <;> omega) ?_ | ((first | refine ev_region ?_ | refine evr_go rfl ?_ | refine evw_go rfl ?_ | refine ev_dr0 mixed rfl (by kernel_rfl) ?_ | refine ev_dr1 mixed rfl (by kernel_rfl) ?_ | refine ev_dr2 mixed rfl (by kernel_rfl) ?_); simp only [go_sem]))
      (first | refine callD (few_fn l) ?_ | refine callDw (few_fn l) ?_); simp only [go_sem]
      repeat (first | refine And.intro (by omega) ?_ | refine And.intro rfl ?_ | refine ev_ctl rfl rfl ?_ | refine evr_nil ?_ | refine evw_nil (by kernel_rfl) ?_ | (simp (disch := omega) only [takeAll, Nat.min_eq_left, Nat.min_eq_right, if_pos, if_neg, getD_map, wrapI64, modIn, fdivE, tmodE, tdivE, decT, decF, beqT, beqF, bneT, bneF, Int.toNat_natCast]; try simp only [go_sem]) | refine ev_condTb rfl (by simp <;> omega) ?_ | refine ev_condFb rfl (by simp <;> omega) ?_ | ((first | refine ev_region ?_ | refine evr_go rfl ?_ | refine evw_go rfl ?_ | refine ev_dr0 mixed rfl (by kernel_rfl) ?_ | refine ev_dr1 mixed rfl (by kernel_rfl) ?_ | refine ev_dr2 mixed rfl (by kernel_rfl) ?_); simp only [go_sem]))
      (first | refine callX (new_fn l) ?_ | refine callXw (new_fn l) ?_); simp only [go_sem]
      repeat (first | refine And.intro (by omega) ?_ | refine And.intro rfl ?_ | refine ev_ctl rfl rfl ?_ | refine evr_nil ?_ | refine evw_nil (by kernel_rfl) ?_ | (simp (disch := omega) only [takeAll, Nat.min_eq_left, Nat.min_eq_right, if_pos, if_neg, getD_map, wrapI64, modIn, fdivE, tmodE, tdivE, decT, decF, beqT, beqF, bneT, bneF, Int.toNat_natCast]; try simp only [go_sem]) | refine ev_condTb rfl (by simp <;> omega) ?_ | refine ev_condFb rfl (by simp <;> omega) ?_ | ((first | refine ev_region ?_ | refine evr_go rfl ?_ | refine evw_go rfl ?_ | refine ev_dr0 mixed rfl (by kernel_rfl) ?_ | refine ev_dr1 mixed rfl (by kernel_rfl) ?_ | refine ev_dr2 mixed rfl (by kernel_rfl) ?_); simp only [go_sem]))
      (first | apply st_callMD (hN) rfl | apply evw_callM (hN) rfl)
      · (simp only [go_sem]; rfl)
      · rfl
      · (first | rfl | (simp only [go_sem]; done))
      · (first | rfl | (simp only [go_sem]; done) | (simp only [go_sem]; rfl))
      · (first | rfl | (simp only [go_sem]; done))
      · (first | rfl | (simp only [go_sem]; done) | (simp only [go_sem]; rfl))
      · (first | rfl | simp [V.pureT, V.pure, V.pures, pures_lo, pures_sls])
      (first | refine ev_all (fu := [(), (), (), (), (), (), (), ()]) ?_ | refine evw_all (md := []) (fu := [(), (), (), (), (), (), (), ()]) ?_); simp only [go_sem]; repeat (first | refine And.intro (by omega) ?_ | refine And.intro rfl ?_ | (simp (disch := omega) only [takeAll, Nat.min_eq_left, Nat.min_eq_right, if_pos, if_neg, getD_map, wrapI64, modIn, fdivE, tmodE, tdivE, decT, decF, beqT, beqF, bneT, bneF, Int.toNat_natCast]; try simp only [go_sem]))
      repeat (first | refine And.intro (by omega) ?_ | refine And.intro rfl ?_ | refine ev_ctl rfl rfl ?_ | refine evr_nil ?_ | refine evw_nil (by kernel_rfl) ?_ | (simp (disch := omega) only [takeAll, Nat.min_eq_left, Nat.min_eq_right, if_pos, if_neg, getD_map, wrapI64, modIn, fdivE, tmodE, tdivE, decT, decF, beqT, beqF, bneT, bneF, Int.toNat_natCast]; try simp only [go_sem]) | refine ev_condTb rfl (by simp <;> omega) ?_ | refine ev_condFb rfl (by simp <;> omega) ?_ | ((first | refine ev_region ?_ | refine evr_go rfl ?_ | refine evw_go rfl ?_ | refine ev_dr0 mixed rfl (by kernel_rfl) ?_ | refine ev_dr1 mixed rfl (by kernel_rfl) ?_ | refine ev_dr2 mixed rfl (by kernel_rfl) ?_); simp only [go_sem]))
      (first | refine callD (awake39_fn) ?_ | refine callDw (awake39_fn) ?_); simp only [go_sem]
      repeat (first | refine And.intro (by omega) ?_ | refine And.intro rfl ?_ | refine ev_ctl rfl rfl ?_ | refine evr_nil ?_ | refine evw_nil (by kernel_rfl) ?_ | (simp (disch := omega) only [takeAll, Nat.min_eq_left, Nat.min_eq_right, if_pos, if_neg, getD_map, wrapI64, modIn, fdivE, tmodE, tdivE, decT, decF, beqT, beqF, bneT, bneF, Int.toNat_natCast]; try simp only [go_sem]) | refine ev_condTb rfl (by simp <;> omega) ?_ | refine ev_condFb rfl (by simp <;> omega) ?_ | ((first | refine ev_region ?_ | refine evr_go rfl ?_ | refine evw_go rfl ?_ | refine ev_dr0 mixed rfl (by kernel_rfl) ?_ | refine ev_dr1 mixed rfl (by kernel_rfl) ?_ | refine ev_dr2 mixed rfl (by kernel_rfl) ?_); simp only [go_sem]))
      refine ret m_jbyte_ok [] ?_; (first | (simp only [go_sem]; done) | (simp only [go_sem]; rfl))
    · have hn := hok q.1[0]! (mem_at (by omega))
      have fE := wenc_own q.1[0]! hn.chk
      have hlE := encB_len q.1[0]!
      have hbE := sEnc_bytes (n := q.1[0]!) hn.2.2.2.2.2.2.2
      rw [sEnc, if_pos hn.chk] at hbE
      have hbE : ∀ x ∈ encB q.1[0]!, inK .u8 x := hbE
      have hbad := fun p v => dec_bad hn (p := p) (v := v)
      have h11 := hn.2.2.2.2.2.2.1
      have hM := mmod_fn a (((encB q.1[0]!).length : Int) - 2) (by omega)
      have m0 := Int.emod_nonneg a (show (((encB q.1[0]!).length : Int) - 2) ≠ 0 by omega)
      have m1 := Int.emod_lt_of_pos a (show (0 : Int) < (((encB q.1[0]!).length : Int) - 2) by omega)
      obtain ⟨p, hp, hp2, hp3⟩ : ∃ p : Nat, (2 : Int) + a % (((encB q.1[0]!).length : Int) - 2) = (p : Int) ∧ 2 ≤ p ∧ p < (encB q.1[0]!).length := ⟨((2 : Int) + a % (((encB q.1[0]!).length : Int) - 2)).toNat, by omega, by omega, by omega⟩
      have hx := wfs_at hbE hp3
      have hbx := bxor_ne hx (y := 1 + y % 255) (by omega)
      have hd := hbad p (bxor .u8 (encB q.1[0]!)[p]! (1 + y % 255)) hp2 hp3 hbx.1 hbx.2.1 hbx.2.2
      have fD := wdec_fn ((encB q.1[0]!).set p (bxor .u8 (encB q.1[0]!)[p]! (1 + y % 255)))
      generalize sDec ((encB q.1[0]!).set p (bxor .u8 (encB q.1[0]!)[p]! (1 + y % 255))) = r at fD hd
      refine Fnc.intro m_jbyte_ok (by simp) fun W S => ?_
      unfold m_jbyte
      simp only [ents, Nat.zero_add, Nat.reduceAdd]
      repeat (first | refine And.intro (by omega) ?_ | refine And.intro rfl ?_ | refine ev_ctl rfl rfl ?_ | refine evr_nil ?_ | refine evw_nil (by kernel_rfl) ?_ | (simp (disch := omega) only [takeAll, Nat.min_eq_left, Nat.min_eq_right, if_pos, if_neg, getD_map, wrapI64, modIn, fdivE, tmodE, tdivE, decT, decF, beqT, beqF, bneT, bneF, Int.toNat_natCast]; try simp only [go_sem]) | refine ev_condTb rfl (by simp <;> omega) ?_ | refine ev_condFb rfl (by simp <;> omega) ?_ | ((first | refine ev_region ?_ | refine evr_go rfl ?_ | refine evw_go rfl ?_ | refine ev_dr0 mixed rfl (by kernel_rfl) ?_ | refine ev_dr1 mixed rfl (by kernel_rfl) ?_ | refine ev_dr2 mixed rfl (by kernel_rfl) ?_); simp only [go_sem]))
      (first | refine callD (few_fn l) ?_ | refine callDw (few_fn l) ?_); simp only [go_sem]
      repeat (first | refine And.intro (by omega) ?_ | refine And.intro rfl ?_ | refine ev_ctl rfl rfl ?_ | refine evr_nil ?_ | refine evw_nil (by kernel_rfl) ?_ | (simp (disch := omega) only [takeAll, Nat.min_eq_left, Nat.min_eq_right, if_pos, if_neg, getD_map, wrapI64, modIn, fdivE, tmodE, tdivE, decT, decF, beqT, beqF, bneT, bneF, Int.toNat_natCast]; try simp only [go_sem]) | refine ev_condTb rfl (by simp <;> omega) ?_ | refine ev_condFb rfl (by simp <;> omega) ?_ | ((first | refine ev_region ?_ | refine evr_go rfl ?_ | refine evw_go rfl ?_ | refine ev_dr0 mixed rfl (by kernel_rfl) ?_ | refine ev_dr1 mixed rfl (by kernel_rfl) ?_ | refine ev_dr2 mixed rfl (by kernel_rfl) ?_); simp only [go_sem]))
      (first | refine callX (new_fn l) ?_ | refine callXw (new_fn l) ?_); simp only [go_sem]
      repeat (first | refine And.intro (by omega) ?_ | refine And.intro rfl ?_ | refine ev_ctl rfl rfl ?_ | refine evr_nil ?_ | refine evw_nil (by kernel_rfl) ?_ | (simp (disch := omega) only [takeAll, Nat.min_eq_left, Nat.min_eq_right, if_pos, if_neg, getD_map, wrapI64, modIn, fdivE, tmodE, tdivE, decT, decF, beqT, beqF, bneT, bneF, Int.toNat_natCast]; try simp only [go_sem]) | refine ev_condTb rfl (by simp <;> omega) ?_ | refine ev_condFb rfl (by simp <;> omega) ?_ | ((first | refine ev_region ?_ | refine evr_go rfl ?_ | refine evw_go rfl ?_ | refine ev_dr0 mixed rfl (by kernel_rfl) ?_ | refine ev_dr1 mixed rfl (by kernel_rfl) ?_ | refine ev_dr2 mixed rfl (by kernel_rfl) ?_); simp only [go_sem]))
      (first | apply st_callMD (hN) rfl | apply evw_callM (hN) rfl)
      · (simp only [go_sem]; rfl)
      · rfl
      · (first | rfl | (simp only [go_sem]; done))
      · (first | rfl | (simp only [go_sem]; done) | (simp only [go_sem]; rfl))
      · (first | rfl | (simp only [go_sem]; done))
      · (first | rfl | (simp only [go_sem]; done) | (simp only [go_sem]; rfl))
      · (first | rfl | simp [V.pureT, V.pure, V.pures, pures_lo, pures_sls])
      (first | refine ev_all (fu := [(), (), (), (), (), (), (), ()]) ?_ | refine evw_all (md := []) (fu := [(), (), (), (), (), (), (), ()]) ?_); simp only [go_sem]; repeat (first | refine And.intro (by omega) ?_ | refine And.intro rfl ?_ | (simp (disch := omega) only [takeAll, Nat.min_eq_left, Nat.min_eq_right, if_pos, if_neg, getD_map, wrapI64, modIn, fdivE, tmodE, tdivE, decT, decF, beqT, beqF, bneT, bneF, Int.toNat_natCast]; try simp only [go_sem]))
      repeat (first | refine And.intro (by omega) ?_ | refine And.intro rfl ?_ | refine ev_ctl rfl rfl ?_ | refine evr_nil ?_ | refine evw_nil (by kernel_rfl) ?_ | (simp (disch := omega) only [takeAll, Nat.min_eq_left, Nat.min_eq_right, if_pos, if_neg, getD_map, wrapI64, modIn, fdivE, tmodE, tdivE, decT, decF, beqT, beqF, bneT, bneF, Int.toNat_natCast]; try simp only [go_sem]) | refine ev_condTb rfl (by simp <;> omega) ?_ | refine ev_condFb rfl (by simp <;> omega) ?_ | ((first | refine ev_region ?_ | refine evr_go rfl ?_ | refine evw_go rfl ?_ | refine ev_dr0 mixed rfl (by kernel_rfl) ?_ | refine ev_dr1 mixed rfl (by kernel_rfl) ?_ | refine ev_dr2 mixed rfl (by kernel_rfl) ?_); simp only [go_sem]))
      (first | refine callX (fE) ?_ | refine callXw (fE) ?_); simp only [go_sem]
      repeat (first | refine And.intro (by omega) ?_ | refine And.intro rfl ?_ | refine ev_ctl rfl rfl ?_ | refine evr_nil ?_ | refine evw_nil (by kernel_rfl) ?_ | (simp (disch := omega) only [takeAll, Nat.min_eq_left, Nat.min_eq_right, if_pos, if_neg, getD_map, wrapI64, modIn, fdivE, tmodE, tdivE, decT, decF, beqT, beqF, bneT, bneF, Int.toNat_natCast]; try simp only [go_sem]) | refine ev_condTb rfl (by simp <;> omega) ?_ | refine ev_condFb rfl (by simp <;> omega) ?_ | ((first | refine ev_region ?_ | refine evr_go rfl ?_ | refine evw_go rfl ?_ | refine ev_dr0 mixed rfl (by kernel_rfl) ?_ | refine ev_dr1 mixed rfl (by kernel_rfl) ?_ | refine ev_dr2 mixed rfl (by kernel_rfl) ?_); simp only [go_sem]))
      (first | refine callD (hM) ?_ | refine callDw (hM) ?_); simp only [go_sem]; repeat (first | refine And.intro (by omega) ?_ | refine And.intro rfl ?_ | (simp (disch := omega) only [takeAll, Nat.min_eq_left, Nat.min_eq_right, if_pos, if_neg, getD_map, wrapI64, modIn, fdivE, tmodE, tdivE, decT, decF, beqT, beqF, bneT, bneF, Int.toNat_natCast]; try simp only [go_sem]))
      repeat (first | refine And.intro (by omega) ?_ | refine And.intro rfl ?_ | refine ev_ctl rfl rfl ?_ | refine evr_nil ?_ | refine evw_nil (by kernel_rfl) ?_ | (simp (disch := omega) only [takeAll, Nat.min_eq_left, Nat.min_eq_right, if_pos, if_neg, getD_map, wrapI64, modIn, fdivE, tmodE, tdivE, decT, decF, beqT, beqF, bneT, bneF, Int.toNat_natCast]; try simp only [go_sem]) | refine ev_condTb rfl (by simp <;> omega) ?_ | refine ev_condFb rfl (by simp <;> omega) ?_ | ((first | refine ev_region ?_ | refine evr_go rfl ?_ | refine evw_go rfl ?_ | refine ev_dr0 mixed rfl (by kernel_rfl) ?_ | refine ev_dr1 mixed rfl (by kernel_rfl) ?_ | refine ev_dr2 mixed rfl (by kernel_rfl) ?_); simp only [go_sem]))
      simp only [hp, Int.toNat_natCast]
      refine evr_calmA ?_; (simp only [go_sem]; repeat (first | refine And.intro (by omega) ?_ | refine And.intro rfl ?_ | (simp (disch := omega) only [takeAll, Nat.min_eq_left, Nat.min_eq_right, if_pos, if_neg, getD_map, wrapI64, modIn, fdivE, tmodE, tdivE, decT, decF, beqT, beqF, bneT, bneF, Int.toNat_natCast]; try simp only [go_sem]))); (first | refine callD (fD) ?_ | refine callDw (fD) ?_); simp only [go_sem]
      repeat (first | refine And.intro (by omega) ?_ | refine And.intro rfl ?_ | refine ev_ctl rfl rfl ?_ | refine evr_nil ?_ | refine evw_nil (by kernel_rfl) ?_ | (simp (disch := omega) only [takeAll, Nat.min_eq_left, Nat.min_eq_right, if_pos, if_neg, getD_map, wrapI64, modIn, fdivE, tmodE, tdivE, decT, decF, beqT, beqF, bneT, bneF, Int.toNat_natCast]; try simp only [go_sem]) | refine ev_condTb rfl (by simp <;> omega) ?_ | refine ev_condFb rfl (by simp <;> omega) ?_ | ((first | refine ev_region ?_ | refine evr_go rfl ?_ | refine evw_go rfl ?_ | refine ev_dr0 mixed rfl (by kernel_rfl) ?_ | refine ev_dr1 mixed rfl (by kernel_rfl) ?_ | refine ev_dr2 mixed rfl (by kernel_rfl) ?_); simp only [go_sem]))
      (first | refine callD (awake39_fn) ?_ | refine callDw (awake39_fn) ?_); simp only [go_sem]
      repeat (first | refine And.intro (by omega) ?_ | refine And.intro rfl ?_ | refine ev_ctl rfl rfl ?_ | refine evr_nil ?_ | refine evw_nil (by kernel_rfl) ?_ | (simp (disch := omega) only [takeAll, Nat.min_eq_left, Nat.min_eq_right, if_pos, if_neg, getD_map, wrapI64, modIn, fdivE, tmodE, tdivE, decT, decF, beqT, beqF, bneT, bneF, Int.toNat_natCast]; try simp only [go_sem]) | refine ev_condTb rfl (by simp <;> omega) ?_ | refine ev_condFb rfl (by simp <;> omega) ?_ | ((first | refine ev_region ?_ | refine evr_go rfl ?_ | refine evw_go rfl ?_ | refine ev_dr0 mixed rfl (by kernel_rfl) ?_ | refine ev_dr1 mixed rfl (by kernel_rfl) ?_ | refine ev_dr2 mixed rfl (by kernel_rfl) ?_); simp only [go_sem]))
      refine ret m_jbyte_ok [] ?_; (first | (simp only [go_sem]; done) | (simp only [go_sem]; rfl))
  · skip
    refine Fnc.intro m_jbyte_ok (by simp) fun W S => ?_
    unfold m_jbyte
    simp only [ents, Nat.zero_add, Nat.reduceAdd]
    repeat (first | refine And.intro (by omega) ?_ | refine And.intro rfl ?_ | refine ev_ctl rfl rfl ?_ | refine evr_nil ?_ | refine evw_nil (by kernel_rfl) ?_ | (simp (disch := omega) only [takeAll, Nat.min_eq_left, Nat.min_eq_right, if_pos, if_neg, getD_map, wrapI64, modIn, fdivE, tmodE, tdivE, decT, decF, beqT, beqF, bneT, bneF, Int.toNat_natCast]; try simp only [go_sem]) | refine ev_condTb rfl (by simp <;> omega) ?_ | refine ev_condFb rfl (by simp <;> omega) ?_ | ((first | refine ev_region ?_ | refine evr_go rfl ?_ | refine evw_go rfl ?_ | refine ev_dr0 mixed rfl (by kernel_rfl) ?_ | refine ev_dr1 mixed rfl (by kernel_rfl) ?_ | refine ev_dr2 mixed rfl (by kernel_rfl) ?_); simp only [go_sem]))
    (first | refine callD (few_fn l) ?_ | refine callDw (few_fn l) ?_); simp only [go_sem]
    repeat (first | refine And.intro (by omega) ?_ | refine And.intro rfl ?_ | refine ev_ctl rfl rfl ?_ | refine evr_nil ?_ | refine evw_nil (by kernel_rfl) ?_ | (simp (disch := omega) only [takeAll, Nat.min_eq_left, Nat.min_eq_right, if_pos, if_neg, getD_map, wrapI64, modIn, fdivE, tmodE, tdivE, decT, decF, beqT, beqF, bneT, bneF, Int.toNat_natCast]; try simp only [go_sem]) | refine ev_condTb rfl (by simp <;> omega) ?_ | refine ev_condFb rfl (by simp <;> omega) ?_ | ((first | refine ev_region ?_ | refine evr_go rfl ?_ | refine evw_go rfl ?_ | refine ev_dr0 mixed rfl (by kernel_rfl) ?_ | refine ev_dr1 mixed rfl (by kernel_rfl) ?_ | refine ev_dr2 mixed rfl (by kernel_rfl) ?_); simp only [go_sem]))
    (first | refine callD (awake39_fn) ?_ | refine callDw (awake39_fn) ?_); simp only [go_sem]
    repeat (first | refine And.intro (by omega) ?_ | refine And.intro rfl ?_ | refine ev_ctl rfl rfl ?_ | refine evr_nil ?_ | refine evw_nil (by kernel_rfl) ?_ | (simp (disch := omega) only [takeAll, Nat.min_eq_left, Nat.min_eq_right, if_pos, if_neg, getD_map, wrapI64, modIn, fdivE, tmodE, tdivE, decT, decF, beqT, beqF, bneT, bneF, Int.toNat_natCast]; try simp only [go_sem]) | refine ev_condTb rfl (by simp <;> omega) ?_ | refine ev_condFb rfl (by simp <;> omega) ?_ | ((first | refine ev_region ?_ | refine evr_go rfl ?_ | refine evw_go rfl ?_ | refine ev_dr0 mixed rfl (by kernel_rfl) ?_ | refine ev_dr1 mixed rfl (by kernel_rfl) ?_ | refine ev_dr2 mixed rfl (by kernel_rfl) ?_); simp only [go_sem]))
    refine ret m_jbyte_ok [] ?_; (first | (simp only [go_sem]; done) | (simp only [go_sem]; rfl))
theorem jbyte_law {a0 : List Int} {v0 : Value} {a1 : Int} {v1 : Value} {a2 : Int} {v2 : Value} (W : World) (e0 : (Sh.slice (Sh.int .i64)).rd (old W) W a0 [v0]) (e1 : (Sh.int .i64).rd (old W) W a1 [v1]) (e2 : (Sh.int .u8).rd (old W) W a2 [v2]) :
    Calls Try.prog 3 #[v0, v1, v2] W fun e w' => e = .returned (.bool true) ∧ Below W.heap.size W w' :=
  Fnc.law (jbyte_fn a0 a1 a2) (RdTs.slice enc_i64s e0 (RdTs.int e1 (RdTs.int e2 RdTs.nil')))
end Go.Proofs.Ytdjjhajkpfiagaa
