/- The law JournalCut. -/
import Derived.Test.YtdjjhajkpfiagaaJ11
namespace Go.Proofs.Ytdjjhajkpfiagaa
open Go Go.RowKit Rdn Rdn.Dp
set_option linter.unusedVariables false
set_option linter.unusedSimpArgs false
def m_jcut : MC := .seq (.reg [⟨(some 4), none, (.p (.mov (.c (.bool false))))⟩])
 (.seq (.seq (.reg [⟨(some 17), none, (.p (.mov (.t 0)))⟩, ⟨(some 18), none, (.call 12 [(.t 17)])⟩, ⟨(some 19), none, (.p (.un .not (.t 18)))⟩])
 (.cond (.t 19) (.seq (.reg [⟨(some 20), none, (.call 13 [])⟩, ⟨(some 4), none, (.p (.mov (.t 20)))⟩])
 (.ret)) (.skip)))
 (.seq (.reg [⟨(some 21), none, (.p (.mov (.t 0)))⟩, ⟨(some 22), none, (.call 15 [(.t 21)])⟩, ⟨(some 23), none, (.call 14 [(.t 22), (.c (.int .i64 12))])⟩, ⟨(some 5), none, (.p (.mov (.t 23)))⟩])
 (.seq (.reg [⟨(some 6), none, (.p (.mov (.c (.nilS))))⟩])
 (.seq (.reg [⟨(some 7), none, (.p (.mov (.c (.nilS))))⟩])
 (.seq (.seq (.reg [⟨(some 8), none, (.p (.mov (.c (.int .i64 0))))⟩])
 (.block 0 (.loop (.seq (.seq (.reg [⟨(some 24), none, (.p (.mov (.t 8)))⟩, ⟨(some 25), none, (.p (.mov (.t 5)))⟩, ⟨(some 26), none, (.p (.len (.t 25)))⟩, ⟨(some 27), none, (.p (.bin 0 .lss (.t 24) (.t 26)))⟩])
 (.cond (.t 27) (.skip) (.exit 0)))
 (.seq (.block 1 (.seq (.reg [⟨(some 31), none, (.p (.mov (.t 6)))⟩, ⟨(some 32), none, (.p (.mov (.t 5)))⟩, ⟨(some 33), none, (.p (.mov (.t 8)))⟩, ⟨(some 34), none, (.p (.idxA 4 (.t 32) (.t 33)))⟩, ⟨(some 35), none, (.p (.load true 4 (.t 34)))⟩, ⟨(some 36), none, (.call 41 [(.t 31), (.t 35)])⟩, ⟨(some 30), none, (.p (.mov (.t 36)))⟩, ⟨(some 37), none, (.p (.ext (.t 30) 0))⟩, ⟨(some 38), none, (.p (.ext (.t 30) 1))⟩, ⟨(some 9), none, (.p (.mov (.t 37)))⟩, ⟨(some 10), none, (.p (.mov (.t 38)))⟩])
 (.seq (.seq (.dreg [⟨(some 39), none, (.p (.mov (.t 10)))⟩, ⟨(some 40), none, (.p (.bin 0 .neq (.t 39) (.c (.int .i64 0))))⟩, ⟨(some 41), none, (.p (.mov (.t 40)))⟩, ⟨(some 42), (some (41, false)), (.p (.mov (.t 9)))⟩, ⟨(some 43), (some (41, false)), (.p (.mov (.t 6)))⟩, ⟨(some 44), (some (41, false)), (.p (.len (.t 43)))⟩, ⟨(some 45), (some (41, false)), (.p (.mov (.t 9)))⟩, ⟨(some 46), (some (41, false)), (.p (.len (.t 45)))⟩, ⟨(some 47), (some (41, false)), (.p (.mn (.t 44) (.t 46)))⟩, ⟨(some 48), (some (41, false)), (.m (.sl 1 (.t 42) none (some (.t 47)) none))⟩, ⟨(some 49), (some (41, false)), (.p (.b2s (.t 48)))⟩, ⟨(some 50), (some (41, false)), (.p (.mov (.t 6)))⟩, ⟨(some 51), (some (41, false)), (.p (.b2s (.t 50)))⟩, ⟨(some 52), (some (41, false)), (.p (.bin 0 .neq (.t 49) (.t 51)))⟩, ⟨(some 53), none, (.p (.pick (.t 41) (.c (.bool true)) (.t 52)))⟩] [[], [0], [0, 1], [0, 1, 2], [0, 1, 2], [0, 1, 2, 4], [0, 1, 2], [0, 1, 2, 6], [0, 1, 2, 4, 5, 6, 7], [0, 1, 2, 3, 4, 5, 6, 7, 8], [0, 1, 2, 3, 4, 5, 6, 7, 8, 9], [0, 1, 2], [0, 1, 2, 11], [0, 1, 2, 3, 4, 5, 6, 7, 8, 9, 10, 11, 12], [0, 1, 2, 3, 4, 5, 6, 7, 8, 9, 10, 11, 12, 13]])
 (.cond (.t 53) (.seq (.reg [⟨(some 4), none, (.p (.mov (.c (.bool false))))⟩])
 (.ret)) (.skip)))
 (.seq (.reg [⟨(some 54), none, (.p (.mov (.t 9)))⟩, ⟨(some 6), none, (.p (.mov (.t 54)))⟩])
 (.reg [⟨(some 55), none, (.p (.mov (.t 7)))⟩, ⟨(some 56), none, (.p (.mov (.t 6)))⟩, ⟨(some 57), none, (.p (.len (.t 56)))⟩, ⟨(some 58), none, (.m (.buildS 3 1 (.int .i64 0) 1 [(0, (.t 57))]))⟩, ⟨(some 59), none, (.m (.app 3 1 8 (.t 55) (.t 58)))⟩, ⟨(some 7), none, (.p (.mov (.t 59)))⟩])))))
 (.reg [⟨(some 28), none, (.p (.mov (.t 8)))⟩, ⟨(some 29), none, (.p (.bin 0 .add (.t 28) (.c (.int .i64 1))))⟩, ⟨(some 8), none, (.p (.mov (.t 29)))⟩]))))))
 (.seq (.reg [⟨(some 61), none, (.p (.mov (.t 6)))⟩, ⟨(some 62), none, (.call 42 [(.t 61)])⟩, ⟨(some 60), none, (.p (.mov (.t 62)))⟩, ⟨(some 63), none, (.p (.ext (.t 60) 0))⟩, ⟨(some 64), none, (.p (.ext (.t 60) 1))⟩, ⟨(some 11), none, (.p (.mov (.t 63)))⟩, ⟨(some 12), none, (.p (.mov (.t 64)))⟩])
 (.seq (.seq (.reg [⟨(some 65), none, (.p (.mov (.t 12)))⟩, ⟨(some 66), none, (.p (.mov (.t 6)))⟩, ⟨(some 67), none, (.p (.len (.t 66)))⟩, ⟨(some 68), none, (.p (.bin 0 .neq (.t 65) (.t 67)))⟩, ⟨(some 69), none, (.p (.mov (.t 68)))⟩, ⟨(some 70), (some (69, false)), (.p (.mov (.t 11)))⟩, ⟨(some 71), (some (69, false)), (.p (.mov (.t 5)))⟩, ⟨(some 72), (some (69, false)), (.call 43 [(.t 70), (.t 71)])⟩, ⟨(some 73), (some (69, false)), (.p (.un .not (.t 72)))⟩, ⟨(some 74), none, (.p (.pick (.t 69) (.c (.bool true)) (.t 73)))⟩])
 (.cond (.t 74) (.seq (.reg [⟨(some 4), none, (.p (.mov (.c (.bool false))))⟩])
 (.ret)) (.skip)))
 (.seq (.reg [⟨(some 75), none, (.p (.mov (.t 1)))⟩, ⟨(some 76), none, (.p (.mov (.t 6)))⟩, ⟨(some 77), none, (.p (.len (.t 76)))⟩, ⟨(some 78), none, (.p (.bin 0 .add (.t 77) (.c (.int .i64 1))))⟩, ⟨(some 79), none, (.call 17 [(.t 75), (.t 78)])⟩, ⟨(some 13), none, (.p (.mov (.t 79)))⟩])
 (.seq (.reg [⟨(some 81), none, (.p (.mov (.t 6)))⟩, ⟨(some 82), none, (.p (.mov (.t 13)))⟩, ⟨(some 83), none, (.m (.sl 1 (.t 81) none (some (.t 82)) none))⟩, ⟨(some 84), none, (.call 42 [(.t 83)])⟩, ⟨(some 80), none, (.p (.mov (.t 84)))⟩, ⟨(some 85), none, (.p (.ext (.t 80) 0))⟩, ⟨(some 86), none, (.p (.ext (.t 80) 1))⟩, ⟨(some 14), none, (.p (.mov (.t 85)))⟩, ⟨(some 12), none, (.p (.mov (.t 86)))⟩])
 (.seq (.reg [⟨(some 15), none, (.p (.mov (.c (.int .i64 0))))⟩])
 (.seq (.seq (.reg [⟨(some 16), none, (.p (.mov (.c (.int .i64 0))))⟩])
 (.block 2 (.loop (.seq (.seq (.reg [⟨(some 87), none, (.p (.mov (.t 16)))⟩, ⟨(some 88), none, (.p (.mov (.t 7)))⟩, ⟨(some 89), none, (.p (.len (.t 88)))⟩, ⟨(some 90), none, (.p (.bin 0 .lss (.t 87) (.t 89)))⟩])
 (.cond (.t 90) (.skip) (.exit 2)))
 (.seq (.block 3 (.seq (.reg [⟨(some 93), none, (.p (.mov (.t 7)))⟩, ⟨(some 94), none, (.p (.mov (.t 16)))⟩, ⟨(some 95), none, (.p (.idxA 1 (.t 93) (.t 94)))⟩, ⟨(some 96), none, (.p (.load false 1 (.t 95)))⟩, ⟨(some 97), none, (.p (.mov (.t 13)))⟩, ⟨(some 98), none, (.p (.bin 0 .leq (.t 96) (.t 97)))⟩])
 (.cond (.t 98) (.reg [⟨(some 99), none, (.p (.mov (.t 16)))⟩, ⟨(some 100), none, (.p (.bin 0 .add (.t 99) (.c (.int .i64 1))))⟩, ⟨(some 15), none, (.p (.mov (.t 100)))⟩]) (.skip))))
 (.reg [⟨(some 91), none, (.p (.mov (.t 16)))⟩, ⟨(some 92), none, (.p (.bin 0 .add (.t 91) (.c (.int .i64 1))))⟩, ⟨(some 16), none, (.p (.mov (.t 92)))⟩]))))))
 (.seq (.reg [⟨(some 101), none, (.p (.mov (.t 14)))⟩, ⟨(some 102), none, (.p (.len (.t 101)))⟩, ⟨(some 103), none, (.p (.mov (.t 15)))⟩, ⟨(some 104), none, (.p (.bin 0 .eql (.t 102) (.t 103)))⟩, ⟨(some 105), none, (.p (.mov (.t 104)))⟩, ⟨(some 106), (some (105, true)), (.p (.mov (.t 14)))⟩, ⟨(some 107), (some (105, true)), (.p (.mov (.t 5)))⟩, ⟨(some 108), (some (105, true)), (.p (.mov (.t 15)))⟩, ⟨(some 109), (some (105, true)), (.m (.sl 4 (.t 107) none (some (.t 108)) none))⟩, ⟨(some 110), (some (105, true)), (.call 43 [(.t 106), (.t 109)])⟩, ⟨(some 111), none, (.p (.pick (.t 105) (.t 110) (.c (.bool false))))⟩, ⟨(some 112), none, (.p (.mov (.t 111)))⟩, ⟨(some 113), (some (112, true)), (.p (.mov (.t 15)))⟩, ⟨(some 114), (some (112, true)), (.p (.bin 0 .eql (.t 113) (.c (.int .i64 0))))⟩, ⟨(some 115), (some (112, true)), (.p (.mov (.t 114)))⟩, ⟨(some 116), (some (115, true)), (.p (.mov (.t 12)))⟩, ⟨(some 117), (some (115, true)), (.p (.bin 0 .eql (.t 116) (.c (.int .i64 0))))⟩, ⟨(some 118), (some (112, true)), (.p (.pick (.t 115) (.t 117) (.c (.bool false))))⟩, ⟨(some 119), (some (112, true)), (.p (.mov (.t 118)))⟩, ⟨(some 120), (some (119, false)), (.p (.mov (.t 15)))⟩, ⟨(some 121), (some (119, false)), (.p (.bin 0 .gtr (.t 120) (.c (.int .i64 0))))⟩, ⟨(some 122), (some (119, false)), (.p (.mov (.t 121)))⟩, ⟨(some 123), (some (122, true)), (.p (.mov (.t 12)))⟩, ⟨(some 124), (some (122, true)), (.p (.mov (.t 7)))⟩, ⟨(some 125), (some (122, true)), (.p (.mov (.t 15)))⟩, ⟨(some 126), (some (122, true)), (.p (.bin 0 .sub (.t 125) (.c (.int .i64 1))))⟩, ⟨(some 127), (some (122, true)), (.p (.idxA 1 (.t 124) (.t 126)))⟩, ⟨(some 128), (some (122, true)), (.p (.load false 1 (.t 127)))⟩, ⟨(some 129), (some (122, true)), (.p (.bin 0 .eql (.t 123) (.t 128)))⟩, ⟨(some 130), (some (119, false)), (.p (.pick (.t 122) (.t 129) (.c (.bool false))))⟩, ⟨(some 131), (some (112, true)), (.p (.pick (.t 119) (.c (.bool true)) (.t 130)))⟩, ⟨(some 132), none, (.p (.pick (.t 112) (.t 131) (.c (.bool false))))⟩, ⟨(some 133), none, (.p (.mov (.t 132)))⟩, ⟨(some 134), (some (133, true)), (.call 13 [])⟩, ⟨(some 135), none, (.p (.pick (.t 133) (.t 134) (.c (.bool false))))⟩, ⟨(some 4), none, (.p (.mov (.t 135)))⟩])
 (.ret)))))))))))))
theorem m_jcut_ok : compF Try.prog 11 = some (136, m_jcut, [.mov (.t 4)]) := by kernel_rfl
theorem getm {α : Type} [Inhabited α] {l : List α} {i : Nat} (h : i < l.length) : l[i]! = l[i] := by simp [h]
/-- The bytes of the first notes. -/
def cat (ns : List Note) (i : Nat) : List Int := ((ns.take i).map encB).flatten
theorem cat_zero (ns : List Note) : cat ns 0 = [] := rfl
theorem cat_snoc {ns : List Note} {i : Nat} (h : i < ns.length) : cat ns (i + 1) = cat ns i ++ encB ns[i]! := by
  unfold cat
  rw [take_snoc h, List.map_append, List.flatten_append]
  simp
def tl (ns : List Note) (i : Nat) : List Int := ((ns.drop i).map encB).flatten
theorem cat_tl (ns : List Note) (i : Nat) : cat ns ns.length = cat ns i ++ tl ns i := by
  unfold cat tl
  rw [List.take_length, ← List.flatten_append, ← List.map_append, List.take_append_drop]
theorem tl_cons {ns : List Note} {i : Nat} (h : i < ns.length) : tl ns i = encB ns[i]! ++ tl ns (i + 1) := by
  unfold tl
  rw [List.drop_eq_getElem_cons h, List.map_cons, List.flatten_cons, getm h]
theorem tl_end (ns : List Note) : tl ns ns.length = [] := by simp [tl]
theorem cat_len_snoc {ns : List Note} {i : Nat} (h : i < ns.length) : (cat ns (i + 1)).length = (cat ns i).length + (12 + ns[i]!.bytes.length) := by rw [cat_snoc h, List.length_append, encB_len]
theorem cat_ge {ns : List Note} : ∀ {i : Nat}, i ≤ ns.length → 12 * i ≤ (cat ns i).length
  | 0, _ => by omega
  | i + 1, h => by rw [cat_len_snoc (by omega)]; have := cat_ge (ns := ns) (i := i) (by omega); omega
theorem cat_le {ns : List Note} (hn : ∀ x ∈ ns, okNote x) : ∀ {i : Nat}, i ≤ ns.length → (cat ns i).length ≤ 23 * i
  | 0, _ => by simp [cat_zero]
  | i + 1, h => by
    rw [cat_len_snoc (by omega)]
    have h1 := cat_le hn (i := i) (by omega)
    have h2 := (hn ns[i]! (mem_at (by omega))).2.2.2.2.2.2.1
    omega
theorem cat_mono {ns : List Note} : ∀ (d i : Nat), i + d ≤ ns.length → (cat ns i).length ≤ (cat ns (i + d)).length
  | 0, i, _ => Nat.le_refl _
  | d + 1, i, h => by
    have h1 := cat_mono (ns := ns) d i (by omega)
    have h2 := cat_len_snoc (ns := ns) (i := i + d) (by omega)
    rw [show i + (d + 1) = i + d + 1 by omega]
    omega
/-- Of a note that was cut off nothing is read. -/
theorem dec_short {n : Note} (hn : okNote n) (more : List Int) {c : Nat} (hc : c < (encB n).length) : (sDec ((encB n ++ more).take c)).2.2 ≠ 0 := by
  obtain ⟨h1, h2, h3, h4, h5, h6, h7⟩ := chkN_0 hn.chk
  have hl := encB_len n
  have hlen : ((encB n ++ more).take c).length = c := by rw [List.length_take, List.length_append]; omega
  unfold sDec
  by_cases c2 : c < 2
  · rw [if_pos (by omega)]; simp
  · have hk : kOf ((encB n ++ more).take c) = 6 + (n.bytes.length : Int) := by
      have e0 : ((encB n ++ more).take c)[0]! = (encB n ++ more)[0]! := by simp [List.getElem?_take, show 0 < c by omega]
      have e1 : ((encB n ++ more).take c)[1]! = (encB n ++ more)[1]! := by simp [List.getElem?_take, show 1 < c by omega]
      unfold kOf
      rw [e0, e1, encB_list]
      simp only [List.cons_append, List.getElem!_cons_zero, List.getElem!_cons_succ]
      omega
    rw [if_neg (by omega), if_pos (by rw [hlen, hk]; omega)]
    simp
theorem sDec_nil : (sDec []).2.2 ≠ 0 := by
  unfold sDec
  rw [if_pos (by simp)]
  simp
/-- What is read of notes that were cut off. -/
theorem rec_cat {ns : List Note} (hn : ∀ x ∈ ns, okNote x) {cut w : Nat} (hw : w ≤ ns.length) (h1 : (cat ns w).length ≤ cut) (h2 : cut ≤ (cat ns ns.length).length) (h3 : w = ns.length ∨ cut < (cat ns (w + 1)).length) : sRec ((cat ns ns.length).take cut) = (ns.take w, (cat ns w).length) := by
  have hJl : ((cat ns ns.length).take cut).length = cut := by rw [List.length_take]; omega
  have hd : ∀ i, i ≤ ns.length → ((cat ns ns.length).take cut).drop (cat ns i).length = (tl ns i).take (cut - (cat ns i).length) := fun i hi => by
    rw [List.drop_take, cat_tl ns i, List.drop_left]
  have key : ∀ (d i : Nat), i + d = w → ∀ f, d + 1 ≤ f → recF ((cat ns ns.length).take cut) f (ns.take i) (cat ns i).length = (ns.take w, (cat ns w).length) := by
    intro d
    induction d with
    | zero =>
      intro i hi f hf
      obtain rfl : i = w := by omega
      obtain ⟨f, rfl⟩ : ∃ g, f = g + 1 := ⟨f - 1, by omega⟩
      rw [recF, if_pos]
      rw [hd i hw]
      by_cases hwm : i = ns.length
      · subst hwm
        rw [tl_end, List.take_nil]
        exact sDec_nil
      · have hlt : i < ns.length := by omega
        have h3 : cut < (cat ns (i + 1)).length := h3.resolve_left hwm
        rw [tl_cons hlt]
        rw [cat_snoc hlt, List.length_append] at h3
        exact dec_short (hn _ (mem_at hlt)) _ (by omega)
    | succ d ih =>
      intro i hi f hf
      obtain ⟨f, rfl⟩ : ∃ g, f = g + 1 := ⟨f - 1, by omega⟩
      have hlt : i < ns.length := by omega
      have hm := cat_mono (ns := ns) d (i + 1) (by omega)
      rw [show i + 1 + d = w by omega] at hm
      have hs := cat_len_snoc hlt
      have he := encB_len ns[i]!
      have e : ((cat ns ns.length).take cut).drop (cat ns i).length = encB ns[i]! ++ (tl ns (i + 1)).take (cut - (cat ns i).length - (encB ns[i]!).length) := by
        rw [hd i (by omega), tl_cons hlt, List.take_append, List.take_of_length_le (l := encB ns[i]!) (by omega)]
      rw [recF, e, dec_enc (hn _ (mem_at hlt)).chk, if_neg (by simp)]
      simp only
      rw [← take_snoc hlt, show (cat ns i).length + (12 + (ns[i]!.bytes.length : Int)).toNat = (cat ns (i + 1)).length by omega]
      exact ih (i + 1) (by omega) f (by omega)
  have hg := cat_ge (ns := ns) hw
  have := key w 0 (by omega) (((cat ns ns.length).take cut).length + 1) (by omega)
  unfold sRec
  simpa [cat_zero] using this
/-- How many notes are whole. -/
def wl (ns : List Note) (cut : Nat) : Nat → Nat
  | 0 => 0
  | i + 1 => if (cat ns (i + 1)).length ≤ cut then i + 1 else wl ns cut i
theorem wl_ok (ns : List Note) (cut : Nat) : ∀ i, wl ns cut i ≤ i ∧ (cat ns (wl ns cut i)).length ≤ cut ∧ ∀ j, wl ns cut i < j → j ≤ i → cut < (cat ns j).length
  | 0 => ⟨Nat.le_refl _, by simp [wl, cat_zero], fun j h1 h2 => by omega⟩
  | i + 1 => by
    obtain ⟨h1, h2, h3⟩ := wl_ok ns cut i
    unfold wl
    split
    · rename_i h
      exact ⟨Nat.le_refl _, h, fun j h4 h5 => by omega⟩
    · rename_i h
      exact ⟨by omega, h2, fun j h4 h5 => by
        by_cases e : j = i + 1
        · subst e; omega
        · exact h3 j h4 (by omega)⟩
def ends (ns : List Note) (i : Nat) : List Int := (List.range i).map fun j => ((cat ns (j + 1)).length : Int)
theorem ends_len (ns : List Note) (i : Nat) : (ends ns i).length = i := by simp [ends]
theorem ends_zero (ns : List Note) : ends ns 0 = [] := rfl
theorem ends_snoc (ns : List Note) (i : Nat) : ends ns i ++ [((cat ns (i + 1)).length : Int)] = ends ns (i + 1) := by simp [ends, List.range_succ]
theorem ends_at (ns : List Note) {i j : Nat} (h : j < i) : (ends ns i)[j]! = ((cat ns (j + 1)).length : Int) := by simp [ends, h]
attribute [local go_sem] numV_u8s take_mapU List.take_length ends_len
attribute [local irreducible] cat wl dns sApp sRec
theorem take_mapN (f : Note → V) (l : List Note) (k : Nat) : (l.map f).take k = (l.take k).map f := by rw [List.map_take]
attribute [local go_sem] take_mapN
set_option maxHeartbeats 8000000 in
theorem jcut_fn (l : List Int) (a : Int) : Fnc Try.prog 11 [.sl false 1 (i64s l), .int .i64 a] (fun x obs => x = .bool true) := by
  by_cases h1 : l.length ≤ 400
  · have hN := notes_fn l 0 12 (by omega) (by omega) (by omega)
    have hok := dns_ok l 0 12
    have hln := dns_len (l := l) (k := 0) (n := 12) (by omega)
    generalize dns l 0 12 = q at hN hok hln
    obtain ⟨ns, kk⟩ := q
    dsimp only at hN hok hln
    have hln : ns.length ≤ 12 := hln
    refine Fnc.intro m_jcut_ok (by simp) fun W S => ?_
    unfold m_jcut
    simp only [ents, Nat.zero_add, Nat.reduceAdd]
    repeat (first | refine And.intro (by omega) ?_ | refine And.intro rfl ?_ | refine ev_ctl rfl rfl ?_ | refine evr_nil ?_ | refine evw_nil (by kernel_rfl) ?_ | (simp (disch := omega) only [takeAll, Nat.min_eq_left, Nat.min_eq_right, if_pos, if_neg, getD_map, wrapI64, modIn, fdivE, tmodE, tdivE, decT, decF, beqT, beqF, bneT, bneF, Int.toNat_natCast]; try simp only [go_sem]) | (refine ev_condTb rfl ?_ ?_; · (simp <;> omega)) | (refine ev_condFb rfl ?_ ?_; · (simp <;> omega)) | ((first | refine ev_region ?_ | refine evr_go rfl ?_ | refine evw_go rfl ?_ | refine ev_dr0 mixed rfl (by kernel_rfl) ?_ | refine ev_dr1 mixed rfl (by kernel_rfl) ?_ | refine ev_dr2 mixed rfl (by kernel_rfl) ?_); simp only [go_sem]))
    (first | refine callD (few_fn l) ?_ | refine callDw (few_fn l) ?_); simp only [go_sem]
    repeat (first | refine And.intro (by omega) ?_ | refine And.intro rfl ?_ | refine ev_ctl rfl rfl ?_ | refine evr_nil ?_ | refine evw_nil (by kernel_rfl) ?_ | (simp (disch := omega) only [takeAll, Nat.min_eq_left, Nat.min_eq_right, if_pos, if_neg, getD_map, wrapI64, modIn, fdivE, tmodE, tdivE, decT, decF, beqT, beqF, bneT, bneF, Int.toNat_natCast]; try simp only [go_sem]) | (refine ev_condTb rfl ?_ ?_; · (simp <;> omega)) | (refine ev_condFb rfl ?_ ?_; · (simp <;> omega)) | ((first | refine ev_region ?_ | refine evr_go rfl ?_ | refine evw_go rfl ?_ | refine ev_dr0 mixed rfl (by kernel_rfl) ?_ | refine ev_dr1 mixed rfl (by kernel_rfl) ?_ | refine ev_dr2 mixed rfl (by kernel_rfl) ?_); simp only [go_sem]))
    (first | refine callX (new_fn l) ?_ | refine callXw (new_fn l) ?_); simp only [go_sem]
    repeat (first | refine And.intro (by omega) ?_ | refine And.intro rfl ?_ | refine ev_ctl rfl rfl ?_ | refine evr_nil ?_ | refine evw_nil (by kernel_rfl) ?_ | (simp (disch := omega) only [takeAll, Nat.min_eq_left, Nat.min_eq_right, if_pos, if_neg, getD_map, wrapI64, modIn, fdivE, tmodE, tdivE, decT, decF, beqT, beqF, bneT, bneF, Int.toNat_natCast]; try simp only [go_sem]) | (refine ev_condTb rfl ?_ ?_; · (simp <;> omega)) | (refine ev_condFb rfl ?_ ?_; · (simp <;> omega)) | ((first | refine ev_region ?_ | refine evr_go rfl ?_ | refine evw_go rfl ?_ | refine ev_dr0 mixed rfl (by kernel_rfl) ?_ | refine ev_dr1 mixed rfl (by kernel_rfl) ?_ | refine ev_dr2 mixed rfl (by kernel_rfl) ?_); simp only [go_sem]))
    (first | apply st_callMD (hN) rfl | apply evw_callM (hN) rfl)
    · (simp only [go_sem]; rfl)
    · rfl
    · (first | rfl | (simp only [go_sem]; done))
    · (first | rfl | (simp only [go_sem]; done) | (simp only [go_sem]; rfl))
    · (first | rfl | (simp only [go_sem]; done))
    · (first | rfl | (simp only [go_sem]; done) | (simp only [go_sem]; rfl))
    · (first | rfl | simp [V.pureT, V.pure, V.pures, pures_lo, pures_sls])
    (first | refine ev_all (fu := [(), (), (), (), (), (), (), ()]) ?_ | refine evw_all (md := []) (fu := [(), (), (), (), (), (), (), ()]) ?_); simp only [go_sem]; repeat (first | refine And.intro (by omega) ?_ | refine And.intro rfl ?_ | (simp (disch := omega) only [takeAll, Nat.min_eq_left, Nat.min_eq_right, if_pos, if_neg, getD_map, wrapI64, modIn, fdivE, tmodE, tdivE, decT, decF, beqT, beqF, bneT, bneF, Int.toNat_natCast]; try simp only [go_sem]))
    repeat (first | refine And.intro (by omega) ?_ | refine And.intro rfl ?_ | refine ev_ctl rfl rfl ?_ | refine evr_nil ?_ | refine evw_nil (by kernel_rfl) ?_ | (simp (disch := omega) only [takeAll, Nat.min_eq_left, Nat.min_eq_right, if_pos, if_neg, getD_map, wrapI64, modIn, fdivE, tmodE, tdivE, decT, decF, beqT, beqF, bneT, bneF, Int.toNat_natCast]; try simp only [go_sem]) | (refine ev_condTb rfl ?_ ?_; · (simp <;> omega)) | (refine ev_condFb rfl ?_ ?_; · (simp <;> omega)) | ((first | refine ev_region ?_ | refine evr_go rfl ?_ | refine evw_go rfl ?_ | refine ev_dr0 mixed rfl (by kernel_rfl) ?_ | refine ev_dr1 mixed rfl (by kernel_rfl) ?_ | refine ev_dr2 mixed rfl (by kernel_rfl) ?_); simp only [go_sem]))
    refine ev_nil2 6 false 1 rfl (ev_adopt (i := 7) (e := 3) (s := 1) rfl (by decide) ?_)
    refine ev_loopK [1, 5] (fun p : {p : Nat // p ≤ ns.length} => [(6, .sl false 1 (u8s (cat ns p.1))), (7, .own 1 p.1), (8, .int .i64 p.1)]) (fun p => [⟨.box false 77, true, 0, deckV l kk⟩, ⟨.row 3, true, p.1, .arr 1 (i64s (ends ns p.1))⟩]) (fun p => ns.length - p.1) (⟨0, by simp⟩) 2 (by simp only [go_sem]; rfl) ?_ (by first | rfl | (simp only [go_sem]; done)) (by simp) (by first | rfl | (simp only [go_sem]; done)) (by first | rfl | (simp only [go_sem]; done)) (by first | rfl | (simp only [go_sem]; done)) ?_
    · (simp only [go_sem]; (try simp [cat_zero, ends_zero]); done)
    intro J hJ
    rintro ⟨i, hi⟩
    have hc := cat_le hok hi
    by_cases hlt : i < ns.length
    · have hs := cat_snoc hlt
      have hsl := cat_len_snoc hlt
      have hcl := cat_le hok (i := i + 1) (by omega)
      have fA := wapp_fn (cat ns i) ns[i]!
      have eA : sApp (cat ns i) ns[i]! = (cat ns (i + 1), 0) := by
        have hk := (hok _ (mem_at hlt)).chk
        unfold sApp sEnc
        rw [if_pos hk, if_neg (by simp), hs]
        simp only
        rw [if_neg (by rw [← List.length_append, ← hs]; omega)]
      rw [eA] at fA
      have ht : List.take (cat ns i).length (cat ns (i + 1)) = cat ns i := by rw [hs, List.take_left]
      have hes := ends_snoc ns i
      repeat (first | refine And.intro (by omega) ?_ | refine And.intro rfl ?_ | refine ev_ctl rfl rfl ?_ | refine evr_nil ?_ | refine evw_nil (by kernel_rfl) ?_ | (simp (disch := omega) only [takeAll, Nat.min_eq_left, Nat.min_eq_right, if_pos, if_neg, getD_map, wrapI64, modIn, fdivE, tmodE, tdivE, decT, decF, beqT, beqF, bneT, bneF, Int.toNat_natCast]; try simp only [go_sem]) | (refine ev_condTb rfl ?_ ?_; · (simp <;> omega)) | (refine ev_condFb rfl ?_ ?_; · (simp <;> omega)) | ((first | refine ev_region ?_ | refine evr_go rfl ?_ | refine evw_go rfl ?_ | refine ev_dr0 mixed rfl (by kernel_rfl) ?_ | refine ev_dr1 mixed rfl (by kernel_rfl) ?_ | refine ev_dr2 mixed rfl (by kernel_rfl) ?_); simp only [go_sem]))
      (first | refine callD (fA) ?_ | refine callDw (fA) ?_); simp only [go_sem]
      repeat (first | refine And.intro (by omega) ?_ | refine And.intro rfl ?_ | refine ev_ctl rfl rfl ?_ | refine evr_nil ?_ | refine evw_nil (by kernel_rfl) ?_ | (simp (disch := omega) only [takeAll, Nat.min_eq_left, Nat.min_eq_right, if_pos, if_neg, getD_map, wrapI64, modIn, fdivE, tmodE, tdivE, decT, decF, beqT, beqF, bneT, bneF, Int.toNat_natCast]; try simp only [go_sem]) | (refine ev_condTb rfl ?_ ?_; · (simp <;> omega)) | (refine ev_condFb rfl ?_ ?_; · (simp <;> omega)) | ((first | refine ev_region ?_ | refine evr_go rfl ?_ | refine evw_go rfl ?_ | refine ev_dr0 mixed rfl (by kernel_rfl) ?_ | refine ev_dr1 mixed rfl (by kernel_rfl) ?_ | refine ev_dr2 mixed rfl (by kernel_rfl) ?_); simp only [go_sem]))
      repeat (first | simp only [ht] | refine And.intro (by omega) ?_ | refine And.intro rfl ?_ | refine ev_ctl rfl rfl ?_ | refine evr_nil ?_ | refine evw_nil (by kernel_rfl) ?_ | (simp (disch := omega) only [takeAll, Nat.min_eq_left, Nat.min_eq_right, if_pos, if_neg, getD_map, wrapI64, modIn, fdivE, tmodE, tdivE, decT, decF, beqT, beqF, bneT, bneF, Int.toNat_natCast]; try simp only [go_sem]) | (refine ev_condTb rfl ?_ ?_; · (simp <;> omega)) | (refine ev_condFb rfl ?_ ?_; · (simp <;> omega)) | ((first | refine ev_region ?_ | refine evr_go rfl ?_ | refine evw_go rfl ?_ | refine ev_dr0 mixed rfl (by kernel_rfl) ?_ | refine ev_dr1 mixed rfl (by kernel_rfl) ?_ | refine ev_dr2 mixed rfl (by kernel_rfl) ?_); simp only [go_sem]))
      refine ev_next 2 (hJ _ (⟨i + 1, hlt⟩) (by first | omega | (dsimp only; omega) | (simp; omega))) rfl (by simp) ?_ (by first | rfl | (simp only [go_sem]; done)) (by first | rfl | (simp only [go_sem]; done)) ?_
      · (first | rfl | (simp only [go_sem]; done) | (simp only [go_sem]; simp only [hes]; done) | (simp only [go_sem]; simp [hes]; done) | (simp [hes]; done))
      · (simp only [go_sem]; (repeat' (refine And.intro ?_ ?_)) <;> first | exact trivial | with_reducible rfl | (simp only [hes]; done) | (simp only [hes]; with_reducible rfl) | (simp [hes]; done) | (simp [hes]; omega) | (simp only [hes]; rfl) | skip)
    · obtain rfl : i = ns.length := by omega
      have fR := wrec_fn (cat ns ns.length) (by omega)
      have eR := rec_cat hok (cut := (cat ns ns.length).length) (Nat.le_refl _) (Nat.le_refl _) (Nat.le_refl _) (.inl rfl)
      rw [List.take_length, List.take_length] at eR
      rw [eR] at fR
      have m0 := Int.emod_nonneg a (show (((cat ns ns.length).length : Int) + 1) ≠ 0 by omega)
      have m1 := Int.emod_lt_of_pos a (show (0 : Int) < (((cat ns ns.length).length : Int) + 1) by omega)
      have hM := mmod_fn a (((cat ns ns.length).length : Int) + 1) (by omega)
      obtain ⟨c, hcut, hc2⟩ : ∃ c : Nat, a % (((cat ns ns.length).length : Int) + 1) = (c : Int) ∧ c ≤ (cat ns ns.length).length := ⟨(a % (((cat ns ns.length).length : Int) + 1)).toNat, by omega, by omega⟩
      obtain ⟨w1, w2, w3⟩ := wl_ok ns c ns.length
      have fR2 := wrec_fn ((cat ns ns.length).take c) (by rw [List.length_take]; omega)
      have eR2 := rec_cat hok (cut := c) (w := wl ns c ns.length) w1 w2 hc2 (by
        by_cases e : wl ns c ns.length = ns.length
        · exact .inl e
        · exact .inr (w3 _ (by omega) (by omega)))
      rw [eR2] at fR2
      rw [hcut] at hM
      have w0 := cat_zero ns
      have hel := ends_len ns ns.length
      repeat (first | refine And.intro (by omega) ?_ | refine And.intro rfl ?_ | refine ev_ctl rfl rfl ?_ | refine evr_nil ?_ | refine evw_nil (by kernel_rfl) ?_ | (simp (disch := omega) only [takeAll, Nat.min_eq_left, Nat.min_eq_right, if_pos, if_neg, getD_map, wrapI64, modIn, fdivE, tmodE, tdivE, decT, decF, beqT, beqF, bneT, bneF, Int.toNat_natCast]; try simp only [go_sem]) | (refine ev_condTb rfl ?_ ?_; · (simp <;> omega)) | (refine ev_condFb rfl ?_ ?_; · (simp <;> omega)) | ((first | refine ev_region ?_ | refine evr_go rfl ?_ | refine evw_go rfl ?_ | refine ev_dr0 mixed rfl (by kernel_rfl) ?_ | refine ev_dr1 mixed rfl (by kernel_rfl) ?_ | refine ev_dr2 mixed rfl (by kernel_rfl) ?_); simp only [go_sem]))
      (first | refine callD (fR) ?_ | refine callDw (fR) ?_); simp only [go_sem]
      repeat (first | refine And.intro (by omega) ?_ | refine And.intro rfl ?_ | refine ev_ctl rfl rfl ?_ | refine evr_nil ?_ | refine evw_nil (by kernel_rfl) ?_ | (simp (disch := omega) only [takeAll, Nat.min_eq_left, Nat.min_eq_right, if_pos, if_neg, getD_map, wrapI64, modIn, fdivE, tmodE, tdivE, decT, decF, beqT, beqF, bneT, bneF, Int.toNat_natCast]; try simp only [go_sem]) | (refine ev_condTb rfl ?_ ?_; · (simp <;> omega)) | (refine ev_condFb rfl ?_ ?_; · (simp <;> omega)) | ((first | refine ev_region ?_ | refine evr_go rfl ?_ | refine evw_go rfl ?_ | refine ev_dr0 mixed rfl (by kernel_rfl) ?_ | refine ev_dr1 mixed rfl (by kernel_rfl) ?_ | refine ev_dr2 mixed rfl (by kernel_rfl) ?_); simp only [go_sem]))
      (first | refine callD (sameall_fn ns) ?_ | refine callDw (sameall_fn ns) ?_); simp only [go_sem]
      repeat (first | refine And.intro (by omega) ?_ | refine And.intro rfl ?_ | refine ev_ctl rfl rfl ?_ | refine evr_nil ?_ | refine evw_nil (by kernel_rfl) ?_ | (simp (disch := omega) only [takeAll, Nat.min_eq_left, Nat.min_eq_right, if_pos, if_neg, getD_map, wrapI64, modIn, fdivE, tmodE, tdivE, decT, decF, beqT, beqF, bneT, bneF, Int.toNat_natCast]; try simp only [go_sem]) | (refine ev_condTb rfl ?_ ?_; · (simp <;> omega)) | (refine ev_condFb rfl ?_ ?_; · (simp <;> omega)) | ((first | refine ev_region ?_ | refine evr_go rfl ?_ | refine evw_go rfl ?_ | refine ev_dr0 mixed rfl (by kernel_rfl) ?_ | refine ev_dr1 mixed rfl (by kernel_rfl) ?_ | refine ev_dr2 mixed rfl (by kernel_rfl) ?_); simp only [go_sem]))
      (first | refine callD (hM) ?_ | refine callDw (hM) ?_); simp only [go_sem]
      repeat (first | refine And.intro (by omega) ?_ | refine And.intro rfl ?_ | refine ev_ctl rfl rfl ?_ | refine evr_nil ?_ | refine evw_nil (by kernel_rfl) ?_ | (simp (disch := omega) only [takeAll, Nat.min_eq_left, Nat.min_eq_right, if_pos, if_neg, getD_map, wrapI64, modIn, fdivE, tmodE, tdivE, decT, decF, beqT, beqF, bneT, bneF, Int.toNat_natCast]; try simp only [go_sem]) | (refine ev_condTb rfl ?_ ?_; · (simp <;> omega)) | (refine ev_condFb rfl ?_ ?_; · (simp <;> omega)) | ((first | refine ev_region ?_ | refine evr_go rfl ?_ | refine evw_go rfl ?_ | refine ev_dr0 mixed rfl (by kernel_rfl) ?_ | refine ev_dr1 mixed rfl (by kernel_rfl) ?_ | refine ev_dr2 mixed rfl (by kernel_rfl) ?_); simp only [go_sem]))
      (first | refine callD (fR2) ?_ | refine callDw (fR2) ?_); simp only [go_sem]
      repeat (first | refine And.intro (by omega) ?_ | refine And.intro rfl ?_ | refine ev_ctl rfl rfl ?_ | refine evr_nil ?_ | refine evw_nil (by kernel_rfl) ?_ | (simp (disch := omega) only [takeAll, Nat.min_eq_left, Nat.min_eq_right, if_pos, if_neg, getD_map, wrapI64, modIn, fdivE, tmodE, tdivE, decT, decF, beqT, beqF, bneT, bneF, Int.toNat_natCast]; try simp only [go_sem]) | (refine ev_condTb rfl ?_ ?_; · (simp <;> omega)) | (refine ev_condFb rfl ?_ ?_; · (simp <;> omega)) | ((first | refine ev_region ?_ | refine evr_go rfl ?_ | refine evw_go rfl ?_ | refine ev_dr0 mixed rfl (by kernel_rfl) ?_ | refine ev_dr1 mixed rfl (by kernel_rfl) ?_ | refine ev_dr2 mixed rfl (by kernel_rfl) ?_); simp only [go_sem]))
      refine ev_loopK [5, 7, 12, 13, 14] (fun p : {p : Nat // p ≤ ns.length} => [(15, .int .i64 (wl ns c p.1)), (16, .int .i64 p.1)]) (fun p => [⟨.box false 77, true, 0, deckV l kk⟩, ⟨.row 3, true, ns.length, .arr 1 (i64s (ends ns ns.length))⟩]) (fun p => ns.length - p.1) (⟨0, by simp⟩) 2 (by simp only [go_sem]; rfl) ?_ (by first | rfl | (simp only [go_sem]; done)) (by simp) (by first | rfl | (simp only [go_sem]; done)) (by first | rfl | (simp only [go_sem]; done)) (by first | rfl | (simp only [go_sem]; done)) ?_
      · (simp only [go_sem]; (try simp [wl]); done)
      intro J hJ
      rintro ⟨j, hj⟩
      by_cases hlt' : j < ns.length
      · have he := ends_at ns hlt'
        by_cases hle : (cat ns (j + 1)).length ≤ c
        · have hwl : wl ns c (j + 1) = j + 1 := by unfold wl; rw [if_pos hle]
          repeat (first | refine And.intro (by omega) ?_ | refine And.intro rfl ?_ | refine ev_ctl rfl rfl ?_ | refine evr_nil ?_ | refine evw_nil (by kernel_rfl) ?_ | (simp (disch := omega) only [takeAll, Nat.min_eq_left, Nat.min_eq_right, if_pos, if_neg, getD_map, wrapI64, modIn, fdivE, tmodE, tdivE, decT, decF, beqT, beqF, bneT, bneF, Int.toNat_natCast]; try simp only [go_sem]) | (refine ev_condTb rfl ?_ ?_; · (simp <;> omega)) | (refine ev_condFb rfl ?_ ?_; · (simp <;> omega)) | ((first | refine ev_region ?_ | refine evr_go rfl ?_ | refine evw_go rfl ?_ | refine ev_dr0 mixed rfl (by kernel_rfl) ?_ | refine ev_dr1 mixed rfl (by kernel_rfl) ?_ | refine ev_dr2 mixed rfl (by kernel_rfl) ?_); simp only [go_sem]))
          refine ev_next 2 (hJ _ (⟨j + 1, hlt'⟩) (by first | omega | (dsimp only; omega) | (simp; omega))) rfl (by simp) ?_ (by first | rfl | (simp only [go_sem]; done)) (by first | rfl | (simp only [go_sem]; done)) ?_
          · (first | rfl | (simp only [go_sem]; done) | (simp only [go_sem]; simp only [hwl]; done) | (simp only [go_sem]; simp [hwl]; done) | (simp [hwl]; done))
          · (simp only [go_sem]; (repeat' (refine And.intro ?_ ?_)) <;> first | exact trivial | with_reducible rfl | (simp only [hwl]; done) | (simp only [hwl]; with_reducible rfl) | (simp [hwl]; done) | (simp [hwl]; omega) | (simp only [hwl]; rfl) | skip)
        · have hwl : wl ns c (j + 1) = wl ns c j := by rw [wl]; rw [if_neg hle]
          repeat (first | refine And.intro (by omega) ?_ | refine And.intro rfl ?_ | refine ev_ctl rfl rfl ?_ | refine evr_nil ?_ | refine evw_nil (by kernel_rfl) ?_ | (simp (disch := omega) only [takeAll, Nat.min_eq_left, Nat.min_eq_right, if_pos, if_neg, getD_map, wrapI64, modIn, fdivE, tmodE, tdivE, decT, decF, beqT, beqF, bneT, bneF, Int.toNat_natCast]; try simp only [go_sem]) | (refine ev_condTb rfl ?_ ?_; · (simp <;> omega)) | (refine ev_condFb rfl ?_ ?_; · (simp <;> omega)) | ((first | refine ev_region ?_ | refine evr_go rfl ?_ | refine evw_go rfl ?_ | refine ev_dr0 mixed rfl (by kernel_rfl) ?_ | refine ev_dr1 mixed rfl (by kernel_rfl) ?_ | refine ev_dr2 mixed rfl (by kernel_rfl) ?_); simp only [go_sem]))
          refine ev_next 2 (hJ _ (⟨j + 1, hlt'⟩) (by first | omega | (dsimp only; omega) | (simp; omega))) rfl (by simp) ?_ (by first | rfl | (simp only [go_sem]; done)) (by first | rfl | (simp only [go_sem]; done)) ?_
          · (first | rfl | (simp only [go_sem]; done) | (simp only [go_sem]; simp only [hwl]; done) | (simp only [go_sem]; simp [hwl]; done) | (simp [hwl]; done))
          · (simp only [go_sem]; (repeat' (refine And.intro ?_ ?_)) <;> first | exact trivial | with_reducible rfl | (simp only [hwl]; done) | (simp only [hwl]; with_reducible rfl) | (simp [hwl]; done) | (simp [hwl]; omega) | (simp only [hwl]; rfl) | skip)
      · obtain rfl : j = ns.length := by omega
        have hw0 : (ns.take (wl ns c ns.length)).length = wl ns c ns.length := by rw [List.length_take]; omega
        by_cases hz : wl ns c ns.length = 0
        · rw [hz, w0] at w2
          have hz2 : (cat ns (wl ns c ns.length)).length = 0 := by rw [hz, w0]; rfl
          repeat (first | refine And.intro (by omega) ?_ | refine And.intro rfl ?_ | refine ev_ctl rfl rfl ?_ | refine evr_nil ?_ | refine evw_nil (by kernel_rfl) ?_ | (simp (disch := omega) only [takeAll, Nat.min_eq_left, Nat.min_eq_right, if_pos, if_neg, getD_map, wrapI64, modIn, fdivE, tmodE, tdivE, decT, decF, beqT, beqF, bneT, bneF, Int.toNat_natCast]; try simp only [go_sem]) | (refine ev_condTb rfl ?_ ?_; · (simp <;> omega)) | (refine ev_condFb rfl ?_ ?_; · (simp <;> omega)) | ((first | refine ev_region ?_ | refine evr_go rfl ?_ | refine evw_go rfl ?_ | refine ev_dr0 mixed rfl (by kernel_rfl) ?_ | refine ev_dr1 mixed rfl (by kernel_rfl) ?_ | refine ev_dr2 mixed rfl (by kernel_rfl) ?_); simp only [go_sem]))
          (first | refine callD (sameall_fn (ns.take (wl ns c ns.length))) ?_ | refine callDw (sameall_fn (ns.take (wl ns c ns.length))) ?_); simp only [go_sem]
          repeat (first | refine And.intro (by omega) ?_ | refine And.intro rfl ?_ | refine ev_ctl rfl rfl ?_ | refine evr_nil ?_ | refine evw_nil (by kernel_rfl) ?_ | (simp (disch := omega) only [takeAll, Nat.min_eq_left, Nat.min_eq_right, if_pos, if_neg, getD_map, wrapI64, modIn, fdivE, tmodE, tdivE, decT, decF, beqT, beqF, bneT, bneF, Int.toNat_natCast]; try simp only [go_sem]) | (refine ev_condTb rfl ?_ ?_; · (simp <;> omega)) | (refine ev_condFb rfl ?_ ?_; · (simp <;> omega)) | ((first | refine ev_region ?_ | refine evr_go rfl ?_ | refine evw_go rfl ?_ | refine ev_dr0 mixed rfl (by kernel_rfl) ?_ | refine ev_dr1 mixed rfl (by kernel_rfl) ?_ | refine ev_dr2 mixed rfl (by kernel_rfl) ?_); simp only [go_sem]))
          (first | refine callD (awake39_fn) ?_ | refine callDw (awake39_fn) ?_); simp only [go_sem]
          repeat (first | refine And.intro (by omega) ?_ | refine And.intro rfl ?_ | refine ev_ctl rfl rfl ?_ | refine evr_nil ?_ | refine evw_nil (by kernel_rfl) ?_ | (simp (disch := omega) only [takeAll, Nat.min_eq_left, Nat.min_eq_right, if_pos, if_neg, getD_map, wrapI64, modIn, fdivE, tmodE, tdivE, decT, decF, beqT, beqF, bneT, bneF, Int.toNat_natCast]; try simp only [go_sem]) | (refine ev_condTb rfl ?_ ?_; · (simp <;> omega)) | (refine ev_condFb rfl ?_ ?_; · (simp <;> omega)) | ((first | refine ev_region ?_ | refine evr_go rfl ?_ | refine evw_go rfl ?_ | refine ev_dr0 mixed rfl (by kernel_rfl) ?_ | refine ev_dr1 mixed rfl (by kernel_rfl) ?_ | refine ev_dr2 mixed rfl (by kernel_rfl) ?_); simp only [go_sem]))
          refine ret m_jcut_ok [] ?_; (first | (simp only [go_sem]; done) | (simp only [go_sem]; rfl))
        · have he := ends_at ns (i := ns.length) (j := wl ns c ns.length - 1) (by omega)
          rw [show wl ns c ns.length - 1 + 1 = wl ns c ns.length by omega] at he
          have hw1 : ((wl ns c ns.length : Int) - 1).toNat = wl ns c ns.length - 1 := by omega
          repeat (first | simp only [hw1] | refine And.intro (by omega) ?_ | refine And.intro rfl ?_ | refine ev_ctl rfl rfl ?_ | refine evr_nil ?_ | refine evw_nil (by kernel_rfl) ?_ | (simp (disch := omega) only [takeAll, Nat.min_eq_left, Nat.min_eq_right, if_pos, if_neg, getD_map, wrapI64, modIn, fdivE, tmodE, tdivE, decT, decF, beqT, beqF, bneT, bneF, Int.toNat_natCast]; try simp only [go_sem]) | (refine ev_condTb rfl ?_ ?_; · (simp <;> omega)) | (refine ev_condFb rfl ?_ ?_; · (simp <;> omega)) | ((first | refine ev_region ?_ | refine evr_go rfl ?_ | refine evw_go rfl ?_ | refine ev_dr0 mixed rfl (by kernel_rfl) ?_ | refine ev_dr1 mixed rfl (by kernel_rfl) ?_ | refine ev_dr2 mixed rfl (by kernel_rfl) ?_); simp only [go_sem]))
          (first | refine callD (sameall_fn (ns.take (wl ns c ns.length))) ?_ | refine callDw (sameall_fn (ns.take (wl ns c ns.length))) ?_); simp only [go_sem]; repeat (first | refine And.intro (by omega) ?_ | refine And.intro rfl ?_ | (simp (disch := omega) only [takeAll, Nat.min_eq_left, Nat.min_eq_right, if_pos, if_neg, getD_map, wrapI64, modIn, fdivE, tmodE, tdivE, decT, decF, beqT, beqF, bneT, bneF, Int.toNat_natCast]; try simp only [go_sem]))
          repeat (first | simp only [hw1] | refine And.intro (by omega) ?_ | refine And.intro rfl ?_ | refine ev_ctl rfl rfl ?_ | refine evr_nil ?_ | refine evw_nil (by kernel_rfl) ?_ | (simp (disch := omega) only [takeAll, Nat.min_eq_left, Nat.min_eq_right, if_pos, if_neg, getD_map, wrapI64, modIn, fdivE, tmodE, tdivE, decT, decF, beqT, beqF, bneT, bneF, Int.toNat_natCast]; try simp only [go_sem]) | (refine ev_condTb rfl ?_ ?_; · (simp <;> omega)) | (refine ev_condFb rfl ?_ ?_; · (simp <;> omega)) | ((first | refine ev_region ?_ | refine evr_go rfl ?_ | refine evw_go rfl ?_ | refine ev_dr0 mixed rfl (by kernel_rfl) ?_ | refine ev_dr1 mixed rfl (by kernel_rfl) ?_ | refine ev_dr2 mixed rfl (by kernel_rfl) ?_); simp only [go_sem]))
          (first | refine callD (awake39_fn) ?_ | refine callDw (awake39_fn) ?_); simp only [go_sem]
          repeat (first | refine And.intro (by omega) ?_ | refine And.intro rfl ?_ | refine ev_ctl rfl rfl ?_ | refine evr_nil ?_ | refine evw_nil (by kernel_rfl) ?_ | (simp (disch := omega) only [takeAll, Nat.min_eq_left, Nat.min_eq_right, if_pos, if_neg, getD_map, wrapI64, modIn, fdivE, tmodE, tdivE, decT, decF, beqT, beqF, bneT, bneF, Int.toNat_natCast]; try simp only [go_sem]) | (refine ev_condTb rfl ?_ ?_; · (simp <;> omega)) | (refine ev_condFb rfl ?_ ?_; · (simp <;> omega)) | ((first | refine ev_region ?_ | refine evr_go rfl ?_ | refine evw_go rfl ?_ | refine ev_dr0 mixed rfl (by kernel_rfl) ?_ | refine ev_dr1 mixed rfl (by kernel_rfl) ?_ | refine ev_dr2 mixed rfl (by kernel_rfl) ?_); simp only [go_sem]))
          refine ret m_jcut_ok [] ?_; (first | (simp only [go_sem]; done) | (simp only [go_sem]; rfl))
  · skip
    refine Fnc.intro m_jcut_ok (by simp) fun W S => ?_
    unfold m_jcut
    simp only [ents, Nat.zero_add, Nat.reduceAdd]
    repeat (first | refine And.intro (by omega) ?_ | refine And.intro rfl ?_ | refine ev_ctl rfl rfl ?_ | refine evr_nil ?_ | refine evw_nil (by kernel_rfl) ?_ | (simp (disch := omega) only [takeAll, Nat.min_eq_left, Nat.min_eq_right, if_pos, if_neg, getD_map, wrapI64, modIn, fdivE, tmodE, tdivE, decT, decF, beqT, beqF, bneT, bneF, Int.toNat_natCast]; try simp only [go_sem]) | (refine ev_condTb rfl ?_ ?_; · (simp <;> omega)) | (refine ev_condFb rfl ?_ ?_; · (simp <;> omega)) | ((first | refine ev_region ?_ | refine evr_go rfl ?_ | refine evw_go rfl ?_ | refine ev_dr0 mixed rfl (by kernel_rfl) ?_ | refine ev_dr1 mixed rfl (by kernel_rfl) ?_ | refine ev_dr2 mixed rfl (by kernel_rfl) ?_); simp only [go_sem]))
    (first | refine callD (few_fn l) ?_ | refine callDw (few_fn l) ?_); simp only [go_sem]
    repeat (first | refine And.intro (by omega) ?_ | refine And.intro rfl ?_ | refine ev_ctl rfl rfl ?_ | refine evr_nil ?_ | refine evw_nil (by kernel_rfl) ?_ | (simp (disch := omega) only [takeAll, Nat.min_eq_left, Nat.min_eq_right, if_pos, if_neg, getD_map, wrapI64, modIn, fdivE, tmodE, tdivE, decT, decF, beqT, beqF, bneT, bneF, Int.toNat_natCast]; try simp only [go_sem]) | (refine ev_condTb rfl ?_ ?_; · (simp <;> omega)) | (refine ev_condFb rfl ?_ ?_; · (simp <;> omega)) | ((first | refine ev_region ?_ | refine evr_go rfl ?_ | refine evw_go rfl ?_ | refine ev_dr0 mixed rfl (by kernel_rfl) ?_ | refine ev_dr1 mixed rfl (by kernel_rfl) ?_ | refine ev_dr2 mixed rfl (by kernel_rfl) ?_); simp only [go_sem]))
    (first | refine callD (awake39_fn) ?_ | refine callDw (awake39_fn) ?_); simp only [go_sem]
    repeat (first | refine And.intro (by omega) ?_ | refine And.intro rfl ?_ | refine ev_ctl rfl rfl ?_ | refine evr_nil ?_ | refine evw_nil (by kernel_rfl) ?_ | (simp (disch := omega) only [takeAll, Nat.min_eq_left, Nat.min_eq_right, if_pos, if_neg, getD_map, wrapI64, modIn, fdivE, tmodE, tdivE, decT, decF, beqT, beqF, bneT, bneF, Int.toNat_natCast]; try simp only [go_sem]) | (refine ev_condTb rfl ?_ ?_; · (simp <;> omega)) | (refine ev_condFb rfl ?_ ?_; · (simp <;> omega)) | ((first | refine ev_region ?_ | refine evr_go rfl ?_ | refine evw_go rfl ?_ | refine ev_dr0 mixed rfl (by kernel_rfl) ?_ | refine ev_dr1 mixed rfl (by kernel_rfl) ?_ | refine ev_dr2 mixed rfl (by kernel_rfl) ?_); simp only [go_sem]))
    refine ret m_jcut_ok [] ?_; (first | (simp only [go_sem]; done) | (simp only [go_sem]; rfl))
theorem jcut_law {a0 : List Int} {v0 : Value} {a1 : Int} {v1 : Value} (W : World) (e0 : (Sh.slice (Sh.int .i64)).rd (old W) W a0 [v0]) (e1 : (Sh.int .i64).rd (old W) W a1 [v1]) :
    Calls Try.prog 11 #[v0, v1] W fun e w' => e = .returned (.bool true) ∧ Below W.heap.size W w' :=
  Fnc.law (jcut_fn a0 a1) (RdTs.slice enc_i64s e0 (RdTs.int e1 RdTs.nil'))
end Go.Proofs.Ytdjjhajkpfiagaa
