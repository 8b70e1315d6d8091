/- Pages are equal exactly if their bytes are (PagesBytes). -/
import Derived.Test.YtcphobeommkgeaaP26
import Derived.Test.YtcphobeommkgeaaC5
namespace Go.Proofs.Ytcphobeommkgeaa
open Go Go.RowKit Rdn Rdn.Dp
set_option linter.unusedVariables false
set_option linter.unusedSimpArgs false
theorem mod_nat (a : Int) {n : Nat} (hn : 0 < n) : ∃ i : Nat, a % (n : Int) = i ∧ i < n := by
  have h1 := Int.emod_nonneg a (b := (n : Int)) (by omega)
  have h2 := Int.emod_lt_of_pos a (b := (n : Int)) (by omega)
  obtain ⟨i, hi⟩ := Int.eq_ofNat_of_zero_le h1
  exact ⟨i, hi, by omega⟩
theorem numV_u8s (a : List Int) : (u8s a).map numV = a := by
  rw [List.map_map]
  exact List.map_id'' (fun x => rfl) a
theorem ba_loop (bs : ByteArray) : ∀ (m i : Nat) (r : List UInt8), bs.size - i = m → ByteArray.toList.loop bs i r = r.reverse ++ bs.data.toList.drop i := by
  intro m
  induction m with
  | zero =>
    intro i r h
    rw [ByteArray.toList.loop, if_neg (by omega), List.drop_of_length_le (by simp only [Array.length_toList]; exact Nat.sub_eq_zero_iff_le.1 h)]
    simp
  | succ m ih =>
    intro i r h
    have hi : i < bs.data.toList.length := by simp only [Array.length_toList]; show i < bs.size; omega
    rw [ByteArray.toList.loop, if_pos (by show i < bs.size; omega), ih (i + 1) _ (by omega), List.drop_eq_getElem_cons hi]
    have e : bs.get! i = bs.data.toList[i] := by
      show bs.data[i]! = _
      rw [getElem!_pos bs.data i (by simpa using hi)]
      simp
    rw [e, List.reverse_cons, List.append_assoc]
    rfl
theorem strNums_list (a : List Int) : (strOfNums a).toList = a.map fun n => UInt8.ofNat n.toNat := by
  unfold ByteArray.toList
  rw [ba_loop _ _ 0 [] rfl]
  simp [strOfNums]
theorem str_beq {a b : List Int} (ha : ∀ x ∈ a, inK .u8 x) (hb : ∀ x ∈ b, inK .u8 x) : ((strOfNums a).toList == (strOfNums b).toList) = decide (a = b) := by
  rw [strNums_list, strNums_list]
  have key : ∀ (a b : List Int), (∀ x ∈ a, inK .u8 x) → (∀ x ∈ b, inK .u8 x) → (a.map (fun n => UInt8.ofNat n.toNat) = b.map fun n => UInt8.ofNat n.toNat) → a = b := by
    intro a
    induction a with
    | nil => intro b _ _ h; cases b with
      | nil => rfl
      | cons y b => simp at h
    | cons x a ih => intro b h1 h2 h; cases b with
      | nil => simp at h
      | cons y b =>
        simp only [List.map_cons, List.cons.injEq] at h
        have e := ih b (fun z hz => h1 z (by simp [hz])) (fun z hz => h2 z (by simp [hz])) h.2
        have hx := inK_u8' (h1 x (by simp))
        have hy := inK_u8' (h2 y (by simp))
        have := congrArg UInt8.toNat h.1
        simp only [UInt8.toNat_ofNat'] at this
        rw [e]
        congr 1
        omega
  by_cases h : a = b
  · subst h; simp
  · have : ¬ (a.map (fun n => UInt8.ofNat n.toNat) = b.map fun n => UInt8.ofNat n.toNat) := fun h' => h (key a b ha hb h')
    rw [decF h]
    simpa using this
attribute [local go_sem] numV_u8s
theorem evr_wf {P : Program} {cx : Cx} {N : Nat} {Q : Exit → Act → World → Prop} {k : List It} {lr : List RO} {n : Nat} {t : List (Nat × V)} {ob : List Ob} (i : Nat) (h : (slotV t i).wf → EvR P cx N Q k lr ⟨n, t, ob⟩) : EvR P cx N Q k lr ⟨n, t, ob⟩ := ⟨fun hn E a w R => (h (RdT.wf (R.tm i))).h hn E a w R⟩
theorem num8_u8 (n : Int) : ∀ x ∈ num8 n, inK .u8 x := by
  intro x hx
  obtain ⟨i, _, rfl⟩ := List.mem_map.1 hx
  unfold nb inK
  simp only [IntKind.min, IntKind.max, IntKind.signed, IntKind.bits]
  simp
  omega
theorem canB_u8 (c : Canon) : ∀ x ∈ canB c, inK .u8 x := by
  intro x hx
  simp only [canB, List.mem_append] at hx
  rcases hx with ((h | h) | h) | h <;> exact num8_u8 _ _ h
theorem celB_u8 (l : List Canon) : ∀ x ∈ celB l, inK .u8 x := by
  intro x hx
  simp only [celB, List.mem_append, cansB, List.mem_flatMap] at hx
  rcases hx with h | ⟨c, _, h⟩
  · exact num8_u8 _ _ h
  · exact canB_u8 _ _ h
theorem pgB_u8 (p : Page) : ∀ x ∈ pgB p, inK .u8 x := by
  intro x hx
  simp only [pgB, List.mem_append] at hx
  rcases hx with (((h | h) | h) | ((((((h | h) | h) | h) | h) | h) | h)) | h
  all_goals first | exact num8_u8 _ _ h | exact celB_u8 _ _ h
theorem pgs_pos {s : State} (F : Fine s) : 0 < (pgs s).length := by
  have h := pgs_len s
  have h1 := F.one
  obtain ⟨r, hr⟩ : ∃ r, s.regions.length = r + 1 := ⟨s.regions.length - 1, by omega⟩
  have h2 := (fine_pos F (j := r) (by omega)).1
  rw [hr, psum] at h
  omega
theorem pgs_small {s : State} (F : Fine s) {k : Nat} (hk : k < (pgs s).length) : ((pgs s)[k]!).cells.length ≤ 1000000 ∧ ((pgs s)[k]!).view.regs.length ≤ 1000000 := by
  rw [pgs_at hk]
  have hk' : k < (idsF (szs s) s.threads.length).length := by unfold pgs at hk; rwa [List.length_map] at hk
  have hc := ((mem_idsF (mem_at hk') F.shp).cells).1
  refine ⟨by omega, ?_⟩
  unfold getP
  split
  · by_cases h : (idsF (szs s) s.threads.length)[k]!.index.toNat < s.threads.length
    · have := F.reg _ (mem_at h)
      dsimp only
      omega
    · dsimp only
      rw [getElem!_neg s.threads _ h]
      exact Nat.zero_le _
  · exact Nat.zero_le _
def CnW (l : List Canon) : Prop := (∀ c ∈ l, inK IntKind.u8 c.tag ∧ inK IntKind.u16 c.val ∧ inK IntKind.i64 c.region ∧ inK IntKind.i64 c.offset ∧ True) ∧ (List.map canonV l).length ≤ 140737488355328
def PgW (a : Page) : Prop := (inK IntKind.i64 a.id.region ∧ inK IntKind.i64 a.id.index ∧ True) ∧ CnW a.cells ∧ (inK IntKind.i64 a.view.state ∧ inK IntKind.i64 a.view.pc ∧ inK IntKind.i64 a.view.count ∧ inK IntKind.i64 a.view.handler ∧ inK IntKind.i64 a.view.saved ∧ inK IntKind.i64 a.view.trap ∧ inK IntKind.u16 a.view.code ∧ CnW a.view.regs ∧ True) ∧ True
theorem i64_b {n : Int} (h : inK .i64 n) : -9223372036854775808 ≤ n ∧ n ≤ 9223372036854775807 := by unfold inK at h; simpa [IntKind.min, IntKind.max, IntKind.signed, IntKind.bits] using h
theorem bytes_inj {a b : Int} (ha : 0 ≤ a ∧ a < 18446744073709551616) (hb : 0 ≤ b ∧ b < 18446744073709551616) (h : ∀ i : Nat, i < 8 → a.fdiv (2 ^ (8 * (i : Int)).toNat) % 256 = b.fdiv (2 ^ (8 * (i : Int)).toNat) % 256) : a = b := by
  have e0 : a % 256 = b % 256 := by have := h 0 (by omega); simpa using this
  have e1 : a / 256 % 256 = b / 256 % 256 := by have := h 1 (by omega); rw [Int.fdiv_eq_ediv_of_nonneg _ (by decide), Int.fdiv_eq_ediv_of_nonneg _ (by decide)] at this; exact this
  have e2 : a / 65536 % 256 = b / 65536 % 256 := by have := h 2 (by omega); rw [Int.fdiv_eq_ediv_of_nonneg _ (by decide), Int.fdiv_eq_ediv_of_nonneg _ (by decide)] at this; exact this
  have e3 : a / 16777216 % 256 = b / 16777216 % 256 := by have := h 3 (by omega); rw [Int.fdiv_eq_ediv_of_nonneg _ (by decide), Int.fdiv_eq_ediv_of_nonneg _ (by decide)] at this; exact this
  have e4 : a / 4294967296 % 256 = b / 4294967296 % 256 := by have := h 4 (by omega); rw [Int.fdiv_eq_ediv_of_nonneg _ (by decide), Int.fdiv_eq_ediv_of_nonneg _ (by decide)] at this; exact this
  have e5 : a / 1099511627776 % 256 = b / 1099511627776 % 256 := by have := h 5 (by omega); rw [Int.fdiv_eq_ediv_of_nonneg _ (by decide), Int.fdiv_eq_ediv_of_nonneg _ (by decide)] at this; exact this
  have e6 : a / 281474976710656 % 256 = b / 281474976710656 % 256 := by have := h 6 (by omega); rw [Int.fdiv_eq_ediv_of_nonneg _ (by decide), Int.fdiv_eq_ediv_of_nonneg _ (by decide)] at this; exact this
  have e7 : a / 72057594037927936 % 256 = b / 72057594037927936 % 256 := by have := h 7 (by omega); rw [Int.fdiv_eq_ediv_of_nonneg _ (by decide), Int.fdiv_eq_ediv_of_nonneg _ (by decide)] at this; exact this
  omega
theorem num8_inj {a b : Int} {r r' : List Int} (ha : inK .i64 a) (hb : inK .i64 b) (h : num8 a ++ r = num8 b ++ r') : a = b ∧ r = r' := by
  obtain ⟨h1, h2⟩ := List.append_inj h (by rw [num8_len, num8_len])
  refine ⟨?_, h2⟩
  have ha := i64_b ha
  have hb := i64_b hb
  have : a % 18446744073709551616 = b % 18446744073709551616 := bytes_inj (by omega) (by omega) fun i hi => by
    have h3 : (num8 a)[i]? = (num8 b)[i]? := by rw [h1]
    simpa [num8, nb, List.getElem?_range hi] using h3
  omega
theorem u8_i64 {n : Int} (h : inK .u8 n) : inK .i64 n := by have := inK_u8' h; unfold inK; simp only [IntKind.min, IntKind.max, IntKind.signed, IntKind.bits]; simp; omega
theorem u16_i64 {n : Int} (h : inK .u16 n) : inK .i64 n := by have := inK_u16' h; unfold inK; simp only [IntKind.min, IntKind.max, IntKind.signed, IntKind.bits]; simp; omega
theorem cansB_inj : ∀ {l m : List Canon} {r r' : List Int}, l.length = m.length → (∀ c ∈ l, inK IntKind.u8 c.tag ∧ inK IntKind.u16 c.val ∧ inK IntKind.i64 c.region ∧ inK IntKind.i64 c.offset ∧ True) → (∀ c ∈ m, inK IntKind.u8 c.tag ∧ inK IntKind.u16 c.val ∧ inK IntKind.i64 c.region ∧ inK IntKind.i64 c.offset ∧ True) → cansB l ++ r = cansB m ++ r' → l = m ∧ r = r'
  | [], [], r, r', _, _, _, h => ⟨rfl, h⟩
  | [], _ :: _, _, _, hl, _, _, _ => by simp at hl
  | _ :: _, [], _, _, hl, _, _, _ => by simp at hl
  | c :: l, d :: m, r, r', hl, h1, h2, h => by
    have c1 := h1 c (by simp)
    have d1 := h2 d (by simp)
    simp only [cansB, List.flatMap_cons, canB, List.append_assoc] at h
    obtain ⟨e1, h⟩ := num8_inj (u8_i64 c1.1) (u8_i64 d1.1) h
    obtain ⟨e2, h⟩ := num8_inj (u16_i64 c1.2.1) (u16_i64 d1.2.1) h
    obtain ⟨e3, h⟩ := num8_inj c1.2.2.1 d1.2.2.1 h
    obtain ⟨e4, h⟩ := num8_inj c1.2.2.2.1 d1.2.2.2.1 h
    obtain ⟨e5, h⟩ := cansB_inj (by simpa using hl) (fun x hx => h1 x (by simp [hx])) (fun x hx => h2 x (by simp [hx])) h
    refine ⟨?_, h⟩
    obtain ⟨a1, a2, a3, a4⟩ := c
    obtain ⟨b1, b2, b3, b4⟩ := d
    simp only at e1 e2 e3 e4
    subst e1 e2 e3 e4 e5
    rfl
theorem celB_inj {l m : List Canon} {r r' : List Int} (hl : CnW l) (hm : CnW m) (h : celB l ++ r = celB m ++ r') : l = m ∧ r = r' := by
  have a1 := hl.2
  have a2 := hm.2
  rw [List.length_map] at a1 a2
  simp only [celB, List.append_assoc] at h
  obtain ⟨e1, h⟩ := num8_inj (by unfold inK; simp only [IntKind.min, IntKind.max, IntKind.signed, IntKind.bits]; simp; omega) (by unfold inK; simp only [IntKind.min, IntKind.max, IntKind.signed, IntKind.bits]; simp; omega) h
  exact cansB_inj (by omega) hl.1 hm.1 h
theorem pgB_inj (a b : Page) (ha : PgW a) (hb : PgW b) : pgB a = pgB b ↔ a = b := by
  refine ⟨fun h => ?_, fun h => by rw [h]⟩
  obtain ⟨⟨r1, i1⟩, cs1, ⟨a1, a2, a3, a4, a5, a6, a7, rs1⟩⟩ := a
  obtain ⟨⟨r2, i2⟩, cs2, ⟨b1, b2, b3, b4, b5, b6, b7, rs2⟩⟩ := b
  obtain ⟨⟨x1, x2, -⟩, x3, ⟨y1, y2, y3, y4, y5, y6, y7, y8, -⟩, -⟩ := ha
  obtain ⟨⟨z1, z2, -⟩, z3, ⟨w1, w2, w3, w4, w5, w6, w7, w8, -⟩, -⟩ := hb
  dsimp only at x1 x2 x3 y1 y2 y3 y4 y5 y6 y7 y8 z1 z2 z3 w1 w2 w3 w4 w5 w6 w7 w8
  simp only [pgB, List.append_assoc] at h
  obtain ⟨e1, h1⟩ := num8_inj x1 z1 h
  obtain ⟨e2, h2⟩ := num8_inj x2 z2 h1
  obtain ⟨e3, h3⟩ := celB_inj x3 z3 h2
  obtain ⟨e4, h4⟩ := num8_inj y1 w1 h3
  obtain ⟨e5, h5⟩ := num8_inj y2 w2 h4
  obtain ⟨e6, h6⟩ := num8_inj y3 w3 h5
  obtain ⟨e7, h7⟩ := num8_inj y4 w4 h6
  obtain ⟨e8, h8⟩ := num8_inj y5 w5 h7
  obtain ⟨e9, h9⟩ := num8_inj y6 w6 h8
  obtain ⟨e10, h10⟩ := num8_inj (u16_i64 y7) (u16_i64 w7) h9
  obtain ⟨e11, -⟩ := celB_inj (r := []) (r' := []) y8 w8 (by simpa using h10)
  subst e1 e2 e3 e4 e5 e6 e7 e8 e9 e10 e11
  rfl
set_option maxHeartbeats 16000000 in
theorem pby_fn (l : List Int) (which other : Int) : Fnc Try.prog 3 [.sl false 1 (i64s l), .int .i64 which, .int .i64 other] (fun x obs => x = .bool true) := by
  have f0 := few_fn l
  have fa := awake25_fn
  by_cases c0 : l.length ≤ 400
  rotate_left
  · rw [decF c0] at f0
    refine zgo m_pby_ok fun W S => ?_
    refine zcd (f0) ?_
    refine zcd (fa) ?_
    exact zrt m_pby_ok
  rw [decT c0] at f0
  have fs := sstate_fn l 0 (by omega)
  have F := ssd_fine l 0
  have h3 := ssd_three l 0
  have hk := ssd_le (l := l) 0 (by omega)
  generalize ssd l 0 = q at fs F h3 hk
  obtain ⟨s, kk⟩ := q
  dsimp only at fs F h3 hk
  have f1 := zall_fn s (fine_low F)
  rw [sAll_0 F.shp.of] at f1
  have g0 := dnx_ge (l := l) (k := kk) (n := 4) (by omega)
  have g1 := dnx_lt (l := l) (k := kk) (n := 4) (by omega)
  obtain ⟨n, hn⟩ := Int.eq_ofNat_of_zero_le g0
  rw [hn] at g1
  have fn := near_fn l s (dkx l kk) n F h3 (dkx_le hk) (by omega)
  obtain ⟨Ft, ht, -, -⟩ := nrs_fine (l := l) (x := (s, dkx l kk)) F (dkx_le hk) n
  generalize nrs l (s, dkx l kk) n = q at fn Ft ht
  obtain ⟨t, k2⟩ := q
  dsimp only at fn Ft ht
  have f2 := zall_fn t (fine_low Ft)
  rw [sAll_0 Ft.shp.of] at f2
  have pA := pgs_pos F
  have pB := pgs_pos Ft
  have sA := fun k => pgs_small F (k := k)
  have sB := fun k => pgs_small Ft (k := k)
  generalize pgs s = A at f1 pA sA
  generalize pgs t = B at f2 pB sB
  obtain ⟨i, hi, hiA⟩ := mod_nat which pA
  obtain ⟨j, hj, hjB⟩ := mod_nat other pB
  obtain ⟨m, hm, hmB⟩ := mod_nat which pB
  have m1 := mmod_fn which A.length (by omega)
  have m2 := mmod_fn other B.length (by omega)
  have m3 := mmod_fn which B.length (by omega)
  rw [hi] at m1
  rw [hj] at m2
  rw [hm] at m3
  have fd := next_fn l kk 4 hk (by omega)
  rw [hn] at fd
  refine zgo m_pby_ok fun W S => ?_
  refine zcd (f0) ?_
  refine zcx (new_fn l) ?_
  refine zcm (fs) ?_
  refine zcd (f1) ?_
  refine zcm (fd) ?_
  refine zcm (fn) ?_
  refine zcd (f2) ?_
  refine zcd (m1) ?_
  refine zcd (m2) ?_
  (first | refine callD (m3) ?_ | refine callDw (m3) ?_); refine zev ?_
  refine evr_wf 9 fun wA => ?_
  refine evr_wf 11 fun wB => ?_
  simp only [slotV, V.wf, V.wfs, wfs_map, if_true, if_false, Nat.reduceEqDiff] at wA wB
  have bx := sA i hiA
  have bz := sB m hmB
  have by' := sB j hjB
  have e1 : decide (pgB A[i]! = pgB B[j]!) = decide (A[i]! = B[j]!) := decide_eq_decide.2 (pgB_inj _ _ (wA.1 _ (mem_at hiA)) (wB.1 _ (mem_at hjB)))
  have e2 : decide (pgB A[i]! = pgB B[m]!) = decide (A[i]! = B[m]!) := decide_eq_decide.2 (pgB_inj _ _ (wA.1 _ (mem_at hiA)) (wB.1 _ (mem_at hmB)))
  rw [← str_beq (pgB_u8 _) (pgB_u8 _)] at e1 e2
  generalize A[i]! = x at bx e1 e2 ⊢
  generalize B[j]! = y at by' e1 ⊢
  generalize B[m]! = z at bz e2 ⊢
  have t1 : (decide (x = y) == ((strOfNums (pgB x)).toList == (strOfNums (pgB y)).toList)) = true := by rw [e1]; simp
  have t2 : (decide (x = z) == ((strOfNums (pgB x)).toList == (strOfNums (pgB z)).toList)) = true := by rw [e2]; simp
  have fxx := pequal_fn x x
  rw [decT rfl] at fxx
  refine zst ?_
  refine zcd (pequal_fn x y) ?_
  refine zcd (pbytes_fn x bx.1 bx.2) ?_
  (first | refine callD (pbytes_fn y by'.1 by'.2) ?_ | refine callDw (pbytes_fn y by'.1 by'.2) ?_); refine zev ?_
  refine zsx t1 ?_
  refine zcd (pequal_fn x z) ?_
  refine zcd (pbytes_fn x bx.1 bx.2) ?_
  (first | refine callD (pbytes_fn z bz.1 bz.2) ?_ | refine callDw (pbytes_fn z bz.1 bz.2) ?_); refine zev ?_
  refine zsx t2 ?_
  refine zcd (fxx) ?_
  refine zcd (fa) ?_
  exact zrt m_pby_ok
theorem pby_law {a0 : List Int} {v0 : Value} {a1 : Int} {v1 : Value} {a2 : Int} {v2 : Value} (W : World) (e0 : (Sh.slice (Sh.int .i64)).rd (old W) W a0 [v0]) (e1 : (Sh.int .i64).rd (old W) W a1 [v1]) (e2 : (Sh.int .i64).rd (old W) W a2 [v2]) :
    Calls Try.prog 3 #[v0, v1, v2] W fun e w' => e = .returned (.bool true) ∧ Below W.heap.size W w' :=
  Fnc.law (pby_fn a0 a1 a2) (RdTs.slice enc_i64s e0 (RdTs.int e1 (RdTs.int e2 RdTs.nil')))
end Go.Proofs.Ytcphobeommkgeaa
