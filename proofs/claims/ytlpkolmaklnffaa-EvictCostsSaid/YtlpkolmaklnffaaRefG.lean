/- The reference's graph (package graftref11) as it lies in memory; its Has, vertex, Add, Out, In. -/
import Derived.Test.YtlpkolmaklnffaaDig2
import Derived.Laws.StructEq
namespace Go.Proofs.Ytlpkolmaklnffaa
open Go.RowKit Go.MapKept

structure RefAt (w : World) (F : Nat → Prop) (b : Nat) (n : Int) (E : List (Int × Int)) (A : Option Addr) (c : Nat) : Prop where
  blk : w.heap[b]? = some (.cells #[.int .i64 n, .slice A E.length c] 37 (0, 0))
  sl : SlE w A E
  cap : E.length ≤ c
  cmax : c ≤ maxLen
  Fb : F b
  Fs : ∀ blk off, A = some ⟨blk, off, none⟩ → F blk
  lt : ∀ blk off, A = some ⟨blk, off, none⟩ → blk < w.heap.size
/-- The pointer to block b is the reference's graph with n vertices and the edges E, in this order. -/
def IsRef (w : World) (F : Nat → Prop) (b : Nat) (n : Int) (E : List (Int × Int)) : Prop := ∃ A c, RefAt w F b n E A c

section
variable {w w' : World} {F G : Nat → Prop} {b : Nat} {n : Int} {E : List (Int × Int)} {A : Option Addr} {c : Nat}
theorem RefAt.only (h : RefAt w F b n E A c) (k : Only G w w') (hn : ∀ i, F i → ¬ G i) : RefAt w' F b n E A c :=
  { h with
    blk := k.heap h.blk (hn _ h.Fb)
    sl := h.sl.only k (fun blk off e => hn _ (h.Fs blk off e))
    lt := fun blk off e => Nat.lt_of_lt_of_le (h.lt blk off e) k.size }
theorem IsRef.only (h : IsRef w F b n E) (k : Only G w w') (hn : ∀ i, F i → ¬ G i) : IsRef w' F b n E := by
  obtain ⟨A, c, h⟩ := h
  exact ⟨A, c, h.only k hn⟩
theorem IsRef.grew (h : IsRef w F b n E) (k : Grew w w') : IsRef w' F b n E := h.only k (fun _ _ hf => hf)
theorem IsRef.mono (h : IsRef w F b n E) (hF : ∀ i, i < w.heap.size → F i → G i) : IsRef w G b n E := by
  obtain ⟨A, c, h⟩ := h
  exact ⟨A, c, { h with Fb := hF _ (Array.getElem?_eq_some_iff.1 h.blk).1 h.Fb, Fs := fun blk off e => hF _ (h.lt blk off e) (h.Fs blk off e) }⟩
theorem IsRef.lt (h : IsRef w F b n E) : b < w.heap.size := by
  obtain ⟨A, c, h⟩ := h
  exact (Array.getElem?_eq_some_iff.1 h.blk).1
end

theorem fields_edge : Try.prog.underlying 39 = some (.struct (Try.prog.fieldsOf 39)) := by kernel_rfl
theorem stood_edge : Try.prog.stoodInHeld 39 = false := by kernel_rfl
theorem eql_edge (x1 x2 y1 y2 : Int) (w : World) : (binOp .eql 39 (.agg #[.int .i64 x1, .int .i64 x2]) (.agg #[.int .i64 y1, .int .i64 y2])).run Try.prog w = .ok (.bool (x1 == y1 && x2 == y2)) w := by
  have u3 := Try.underlying3
  have a3 := Try.isAgg3
  have z3 := Try.sizeOf3
  have hS := fields_edge
  have hp := stood_edge
  rw [run_eql_struct, show (10000 : Nat) = 9999 + 1 from rfl, run_equalIn_agg w 9999 39 _ _ hS hp]
  simp only [Program.fieldsOf, Try.underlying39]
  go_simp
  by_cases h1 : x1 = y1 <;> by_cases h2 : x2 = y2 <;> simp [h1, h2]
theorem guard_edge : Try.prog.eqGuardType Try.prog.depth 39 = false := by kernel_rfl

set_option maxHeartbeats 400000 in
theorem rvertex_at (b : Nat) (n v : Int) (w : World) (hc : w.cell? ⟨b, 0, none⟩ = some (.int .i64 n)) : Calls Try.prog 69 #[.pointer (some ⟨b, 0, none⟩), .int .i64 v] w fun e w' => e = .returned (.bool (inRange n v)) ∧ w = w' := by
  by_cases h0 : 0 ≤ v
  · have h1 : decide (0 ≤ v) = true := by simpa using h0
    have hr : inRange n v = decide (v < n) := by simp [inRange, h0]
    have HR := hid hr
    clear hr
    go_enter Try.func69, Try.ntmps69
    go_wp2
    go_ret
    exact ⟨by rw [HR.out]; rfl, rfl⟩
  · have h1 : decide (0 ≤ v) = false := by simpa using h0
    have hr : inRange n v = false := by simp [inRange, h0]
    have HR := hid hr
    clear hr
    go_enter Try.func69, Try.ntmps69
    go_wp2
    go_ret
    exact ⟨by rw [HR.out]; rfl, rfl⟩

theorem rvertex_is (b : Nat) (n v : Int) (w : World) (r : Bool) (h : inRange n v = r) (hc : w.cell? ⟨b, 0, none⟩ = some (.int .i64 n)) : Calls Try.prog 69 #[.pointer (some ⟨b, 0, none⟩), .int .i64 v] w fun e w' => e = .returned (.bool r) ∧ w = w' :=
  h ▸ rvertex_at b n v w hc
set_option maxRecDepth 100000 in
set_option maxHeartbeats 400000 in
theorem rhas_at (b : Nat) (n : Int) (E : List (Int × Int)) (F : Nat → Prop) (y1 y2 : Int) (w : World) (hG : IsRef w F b n E) :
    Calls Try.prog 31 #[.pointer (some ⟨b, 0, none⟩), .agg #[.int .i64 y1, .int .i64 y2]] w fun e w' => e = .returned (.bool (decide ((y1, y2) ∈ E))) ∧ Grew w w' := by
  obtain ⟨A, c, g⟩ := hG
  have hmx := g.cap
  have hmc := g.cmax
  unfold maxLen at hmc
  have heq := eql_edge
  have hgd := guard_edge
  have hbl := (Array.getElem?_eq_some_iff.1 g.blk).1
  have g0 := g.only (Only.alloc (F := fun _ => False) w (.cells #[.int .i64 y1, .int .i64 y2] 39)) (fun _ _ h => h)
  have k1 := cell_of_row _ _ 1 _ _ _ g0.blk
  simp at k1
  go_enter Try.func31, Try.ntmps31
  go_wp2
  go_loopw [5] (fun i wr => ∃ k : Nat, k ≤ E.length ∧ i = .int .i64 k ∧ (y1, y2) ∉ E.take k ∧ Grew w wr ∧ wr.heap[w.heap.size]? = some (.cells #[.int .i64 y1, .int .i64 y2] 39 (0, 0))) (fun i _ => E.length - (intOf i).toNat)
  case atStart => exact ⟨0, Nat.zero_le _, rfl, by simp, Only.alloc _ _, heap_alloc_new w _⟩
  case round =>
    obtain ⟨k, hk, rfl, hno, hO, hB⟩ := hrel
    have gr := g.only hO (fun _ _ h => h)
    have k1 := cell_of_row _ _ 1 _ _ _ gr.blk
    have c0 := cell_of_row _ _ 0 _ _ _ hB
    have c1 := cell_of_row _ _ 1 _ _ _ hB
    simp at k1 c0 c1
    have hsl := gr.sl
    have HB := hid hB
    clear g g0 hB
    have HNO := hid hno
    have HO := hid hO
    clear hno hO
    by_cases hlt : k < E.length
    · obtain ⟨bl, off, rfl, hcell⟩ := hsl (by omega)
      obtain ⟨h1, h2⟩ := hcell k hlt
      obtain ⟨⟨u, x⟩, hux⟩ : ∃ p, E[k]? = some p := ⟨E[k], by simp [hlt]⟩
      simp only [hux, Option.getD_some] at h1 h2
      have HUX := hid hux
      clear hcell hux gr
      have hb0 : (k : Int) < (E.length : Int) := by omega
      by_cases hy : u = y1 ∧ x = y2
      · obtain ⟨rfl, rfl⟩ := hy
        have e1 : (u == u) = true := by simp
        have e2 : (x == x) = true := by simp
        have HIN : Hid (decide ((u, x) ∈ E) = true) := hid (by simpa using List.mem_of_getElem? HUX.out)
        go_wp2_with fail
        go_quiet (fail)
        go_wp2
        go_ret
        exact ⟨by rw [HIN.out]; rfl, HO.out.trans (Only.drewN _ _)⟩
      · have e1 : (u == y1 && x == y2) = false := by
          rw [Bool.and_eq_false_iff]
          rcases Classical.em (u = y1) with h | h
          · exact .inr (by simpa using fun h' => hy ⟨h, h'⟩)
          · exact .inl (by simpa using h)
        have HNE := hid hy
        clear hy
        go_wp2_with fail
        go_quiet (fail)
        go_wp2
        go_roundw
        case rel =>
          refine ⟨k + 1, by omega, by go_num, ?_, HO.out.trans (Only.drewN _ _), ?_⟩
          · rw [List.take_add_one, HUX.out]
            simp only [Option.toList_some, List.mem_append, List.mem_singleton, not_or, Prod.mk.injEq]
            exact ⟨HNO.out, fun h => HNE.out ⟨h.1.symm, h.2.symm⟩⟩
          · exact HB.out
        case measure => simp [intOf]; omega
    · obtain rfl : k = E.length := by omega
      go_wp2
      go_ret
      exact ⟨by have := HNO.out; rw [List.take_length] at this; simp [this], HO.out⟩
end Go.Proofs.Ytlpkolmaklnffaa
