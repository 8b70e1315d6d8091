/- From the readings of a law's arguments to trees, and from a contract over trees to the law's. Over any program. -/
import Derived.Test.YtkfpcgkmemfdaaaDk
namespace Rdn.Dp
open Go Go.RowKit Rdn
set_option linter.unusedVariables false

def Enc {α : Type} (r : Sh α) (e : α → V) : Prop := ∀ W a cs, r.rd (old W) W a cs → RdV (argE W) W (e a) cs
def EncL {α : Type} (r : Sh α) (e : α → List V) : Prop := ∀ W a cs, r.rd (old W) W a cs → RdL (argE W) W (e a) cs
theorem Enc.int (k : IntKind) : Enc (Sh.int k) (V.int k) := fun W a cs h => by simp only [RdV]; exact h
theorem Enc.bool : Enc Sh.bool V.bool := fun W a cs h => by simp only [RdV]; exact h
theorem EncL.unit : EncL Sh.unit (fun _ => []) := fun W a cs h => by simp only [RdL]; exact h
theorem EncL.cons {α β : Type} {r : Sh α} {s : Sh β} {e : α → V} {f : β → List V} (h : Enc r e) (k : EncL s f) : EncL (Sh.prod r s) (fun p => e p.1 :: f p.2) := by
  rintro W a cs ⟨c, d, rfl, h1, h2⟩
  simp only [RdL]
  exact ⟨c, d, rfl, h W _ _ h1, k W _ _ h2⟩
theorem Enc.struct {α γ : Type} {r : Sh α} {f : α → List V} (h : EncL r f) (g : γ → α) : Enc (Sh.via r g) (fun x => .agg (f (g x))) := by
  intro W a cs hr
  simp only [RdV]
  exact h W _ _ hr
theorem Enc.slice {α : Type} {r : Sh α} {e : α → V} (h : Enc r e) (hp : ∀ a, (e a).pure = true) (hs : ∀ a, (e a).size = r.size) : Enc (Sh.slice r) (fun l => .sl false r.size (l.map e)) := by
  rintro W l cs ⟨v, rfl, A, c, rfl, hc, hm, hn⟩
  simp only [RdV]
  refine ⟨pures_map _ _ hp, fun x hx => ?_, A, c, by simp, by simpa using hc, by simpa using hm, fun h0 => ?_⟩
  · obtain ⟨a, _, rfl⟩ := List.mem_map.1 hx
    exact hs a
  · have h0 : 0 < l.length := by simpa using h0
    obtain ⟨b, o, hA, hb, hlt, hi⟩ := hn h0
    -- the cells, one element behind the other
    have key : ∀ (m : List α) (o : Nat), (∀ i (h : i < m.length), ∃ cs, r.rd (old W) W m[i] cs ∧ At W b (o + i * r.size) cs) → ∃ xs, RdL (argE W) W (m.map e) xs ∧ At W b o xs := by
      intro m
      induction m with
      | nil => intro o _; exact ⟨[], by simp [RdL], fun j v hv => by simp at hv⟩
      | cons a m ih =>
        intro o hi
        obtain ⟨cs, k1, k2⟩ := hi 0 (by simp)
        obtain ⟨xs, k3, k4⟩ := ih (o + r.size) (fun i h => by
          obtain ⟨ds, q1, q2⟩ := hi (i + 1) (by simpa using h)
          refine ⟨ds, by simpa using q1, ?_⟩
          have : o + (i + 1) * r.size = o + r.size + i * r.size := by rw [Nat.add_mul]; omega
          rwa [this] at q2)
        have hl := r.len k1
        refine ⟨cs ++ xs, by simp only [List.map_cons, RdL]; exact ⟨cs, xs, rfl, h W _ _ (by simpa using k1), k3⟩, fun j v hv => ?_⟩
        rw [List.getElem?_append] at hv
        split at hv
        · have := k2 j v hv
          simpa using this
        · rename_i hj
          have := k4 (j - cs.length) v hv
          rw [hl] at this hj
          rwa [show o + r.size + (j - r.size) = o + j by omega] at this
    obtain ⟨xs, k1, k2⟩ := key l o hi
    exact ⟨b, o, xs, hA, hlt, fun h => (by cases h), k1, k2⟩
theorem RdTs.nil' {W : World} : RdTs (argE W) W [] [] := by simp only [RdTs]
theorem RdTs.int {k : IntKind} {W : World} {a : Int} {v : Value} {l : List V} {vs : List Value} (h : (Sh.int k).rd (old W) W a [v]) (hl : RdTs (argE W) W l vs) : RdTs (argE W) W (.int k a :: l) (v :: vs) := by
  simp only [RdTs]
  refine ⟨v, vs, rfl, ?_, hl⟩
  simp only [RdT]
  exact Enc.int k W _ _ h
theorem RdTs.slice {α : Type} {r : Sh α} {e : α → V} (he : Enc (Sh.slice r) (fun l => .sl false r.size (l.map e))) {W : World} {a : List α} {v : Value} {l : List V} {vs : List Value} (h : (Sh.slice r).rd (old W) W a [v]) (hl : RdTs (argE W) W l vs) : RdTs (argE W) W (.sl false r.size (a.map e) :: l) (v :: vs) := by
  simp only [RdTs]
  refine ⟨v, vs, rfl, ?_, hl⟩
  simp only [RdT]
  exact he W _ _ h
theorem RdTs.agg {α : Type} {r : Sh α} {e : α → List V} (he : Enc r (fun x => .agg (e x))) {W : World} {a : α} {cs : List Value} {l : List V} {vs : List Value} (h : r.rd (old W) W a cs) (hl : RdTs (argE W) W l vs) : RdTs (argE W) W (.agg (e a) :: l) (.agg cs.toArray :: vs) := by
  simp only [RdTs]
  refine ⟨_, vs, rfl, ?_, hl⟩
  simp only [RdT]
  exact ⟨cs, rfl, he W _ _ h⟩
/-- A law that returns true. -/
theorem Fnc.law {P : Program} {f : FuncId} {xs : List V} (h : Fnc P f xs fun x obs => x = .bool true) {W : World} {vs : List Value} (hv : RdTs (argE W) W xs vs) : Calls P f vs.toArray W fun e w' => e = .returned (.bool true) ∧ Below W.heap.size W w' := by
  refine (h W (fun b => b < W.heap.size) vs (fun _ h => h) hv).mono ?_
  rintro e w' ⟨x, obs, v, rfl, rfl, E', hB, ho, R⟩
  have := R.tm 0
  simp only [slotV, if_true] at this
  have := rd_bool this
  simp at this
  subst this
  exact ⟨rfl, R.keep.os, R.keep.tape, R.keep.output, R.keep.size, fun k hk => R.keep.block k hk (fun h => h)⟩
theorem enc_u8s : Enc (Sh.slice (Sh.int .u8)) (fun l => .sl false (Sh.int .u8).size (l.map (V.int .u8))) := Enc.slice (Enc.int _) (fun _ => rfl) (fun _ => rfl)
theorem enc_u16s : Enc (Sh.slice (Sh.int .u16)) (fun l => .sl false (Sh.int .u16).size (l.map (V.int .u16))) := Enc.slice (Enc.int _) (fun _ => rfl) (fun _ => rfl)
theorem enc_u32s : Enc (Sh.slice (Sh.int .u32)) (fun l => .sl false (Sh.int .u32).size (l.map (V.int .u32))) := Enc.slice (Enc.int _) (fun _ => rfl) (fun _ => rfl)
theorem enc_i64s : Enc (Sh.slice (Sh.int .i64)) (fun l => .sl false (Sh.int .i64).size (l.map (V.int .i64))) := Enc.slice (Enc.int _) (fun _ => rfl) (fun _ => rfl)
theorem enc_cell : Enc Cell.sh (fun c => .agg [.int .u8 c.tag, .int .u16 c.val]) := Enc.struct (EncL.cons (Enc.int _) (EncL.cons (Enc.int _) EncL.unit)) _
theorem enc_canon : Enc Canon.sh (fun c => .agg [.int .u8 c.tag, .int .u16 c.val, .int .i64 c.region, .int .i64 c.offset]) := Enc.struct (EncL.cons (Enc.int _) (EncL.cons (Enc.int _) (EncL.cons (Enc.int _) (EncL.cons (Enc.int _) EncL.unit)))) _
theorem enc_cells : Enc (Sh.slice Cell.sh) (fun l => .sl false Cell.sh.size (l.map cellV)) := Enc.slice enc_cell (fun _ => rfl) (fun _ => rfl)
theorem enc_canons : Enc (Sh.slice Canon.sh) (fun l => .sl false Canon.sh.size (l.map canonV)) := Enc.slice enc_canon (fun _ => rfl) (fun _ => rfl)
theorem enc_view : Enc View.sh (fun v => .agg [.int .i64 v.state, .int .i64 v.pc, .int .i64 v.count, .int .i64 v.handler, .int .i64 v.saved, .int .i64 v.trap, .int .u16 v.code, .sl false Canon.sh.size (v.regs.map canonV)]) :=
  Enc.struct (EncL.cons (Enc.int _) (EncL.cons (Enc.int _) (EncL.cons (Enc.int _) (EncL.cons (Enc.int _) (EncL.cons (Enc.int _) (EncL.cons (Enc.int _) (EncL.cons (Enc.int _) (EncL.cons enc_canons EncL.unit)))))))) _
theorem enc_output : Enc Output.sh (fun o => outputV false o) := Enc.struct (EncL.cons (Enc.int _) (EncL.cons (Enc.int _) (EncL.cons enc_canons EncL.unit))) _
theorem enc_outputs : Enc (Sh.slice Output.sh) (fun l => .sl false Output.sh.size (l.map (outputV false))) := Enc.slice enc_output (fun _ => rfl) (fun _ => rfl)
abbrev gwL (t : Bool) (g : Gateway) : List V := [.int .i64 g.next, .int .i64 g.free, .int .i64 g.acked, .sl t 3 (g.held.map (outputV t))]
abbrev mbL (t : Bool) (g : Mailbox) : List V := [.int .i64 g.next, .int .i64 g.epoch, .sl t 3 (g.taken.map (outputV t))]
abbrev noteL (t : Bool) (g : Note) : List V := [.int .i64 g.kind, .int .i64 g.number, .int .i64 g.state, .sl t 1 (u8s g.bytes)]
theorem enc_gateway : Enc Gateway.sh (fun g => .agg (gwL false g)) := Enc.struct (EncL.cons (Enc.int _) (EncL.cons (Enc.int _) (EncL.cons (Enc.int _) (EncL.cons enc_outputs EncL.unit)))) _
theorem enc_mailbox : Enc Mailbox.sh (fun g => .agg (mbL false g)) := Enc.struct (EncL.cons (Enc.int _) (EncL.cons (Enc.int _) (EncL.cons enc_outputs EncL.unit))) _
theorem enc_note : Enc Note.sh (fun g => .agg (noteL false g)) := Enc.struct (EncL.cons (Enc.int _) (EncL.cons (Enc.int _) (EncL.cons (Enc.int _) (EncL.cons enc_u8s EncL.unit)))) _
end Rdn.Dp
