/- The walks of package digraph: Out, In, Has, Size; Add at nil. -/
import Derived.Test.YtlpkolmaklnffaaRefA
import Derived.Test.YtlpkolmaklnffaaSorted
namespace Go.Proofs.Ytlpkolmaklnffaa
open Go.RowKit Go.MapKept

theorem own_form {w : World} {base : Nat} {v : Value} {m : Nat} {xs : List Int} (h : w.ownsRow base 3 1 v m (xs.map (Value.int .i64))) : ∃ A c, v = .slice A xs.length c ∧ SlI w A xs := by
  have hm : m = xs.length := by simpa using h.1.symm
  subst hm
  rcases h.2 with ⟨rfl, hz⟩ | ⟨g, cap, cur, rfl, _⟩
  · obtain rfl : xs = [] := List.eq_nil_of_length_eq_zero hz
    exact ⟨none, 0, rfl, SlI.nil⟩
  · exact ⟨_, _, rfl, SlI.of_own h⟩
theorem own_base {w : World} {base base' e size : Nat} {v : Value} {m : Nat} {xs : List Value} (h : w.ownsRow base e size v m xs) (hb : base' ≤ base) : w.ownsRow base' e size v m xs := by
  refine ⟨h.1, ?_⟩
  rcases h.2 with h2 | ⟨g, cap, cur, rfl, hg, r⟩
  · exact .inl h2
  · exact .inr ⟨g, cap, cur, rfl, Nat.le_trans hb hg, r⟩
theorem NewInts.from {w w1 w' : World} {v : Value} {xs : List Int} (h : NewInts w1 w' v xs) (hw : w.heap.size ≤ w1.heap.size) : NewInts w w' v xs := own_base h hw
/-- Out, In: the neighbors, ascending. -/
def outL (E : List (Int × Int)) (v : Int) : List Int := sortL (succ E v)
def inL (E : List (Int × Int)) (v : Int) : List Int := sortL (pred E v)

set_option maxHeartbeats 400000 in
theorem out_at (b : Nat) (n v : Int) (E : List (Int × Int)) (F : Nat → Prop) (w : World) (hG : IsGraph w F b n E) (hv : okI v) (hfew : E.length ≤ 1099511627776) :
    Calls Try.prog 26 #[.pointer (some ⟨b, 0, none⟩), .int .i64 v] w fun e w' => ∃ r, e = .returned r ∧ NewInts w w' r (outL E v) ∧ Grew w w' := by
  obtain ⟨⟨me, mo, mi, KO, KI, g⟩, _⟩ := hG
  have k2 := cell_of_row _ _ 2 _ _ _ g.blk
  simp at k2
  have hlk := (g.out.lookup keysI Try.underlying83 zeroInts hv).1
  obtain ⟨A, c, hA, hI⟩ := own_form (g.outrow v)
  rw [hA] at hlk
  replace hlk : (Instr.lookup 83 (.map (some mo)) (.int .i64 v) false).run Try.prog w = .ok (.slice A (succ E v).length c) w := hlk
  have hlen := succ_length E v
  have HI := hid hI
  clear hA hI g
  go_enter Try.func26, Try.ntmps26
  go_wp2_with (first
    | (go_at_call 67; refine (values_at A (succ E v).length c w).mono ?_; rintro e w' ⟨rfl, rfl⟩)
    | (go_at_call 65; refine (sorted_values_at w.heap.size c A (succ E v) (by omega) _ (cell_of_row _ _ 0 _ _ _ (heap_alloc_new w _)) (HI.out.grew (Only.alloc w _))).mono ?_; rintro e w' ⟨r, rfl, hr, hg⟩))
  go_ret
  exact ⟨r, rfl, hr.from (by simp), Grew.trans (Only.alloc w _) hg⟩
set_option maxHeartbeats 400000 in
theorem in_at (b : Nat) (n v : Int) (E : List (Int × Int)) (F : Nat → Prop) (w : World) (hG : IsGraph w F b n E) (hv : okI v) (hfew : E.length ≤ 1099511627776) :
    Calls Try.prog 34 #[.pointer (some ⟨b, 0, none⟩), .int .i64 v] w fun e w' => ∃ r, e = .returned r ∧ NewInts w w' r (inL E v) ∧ Grew w w' := by
  obtain ⟨⟨me, mo, mi, KO, KI, g⟩, _⟩ := hG
  have k2 := cell_of_row _ _ 3 _ _ _ g.blk
  simp at k2
  have hlk := (g.inn.lookup keysI Try.underlying83 zeroInts hv).1
  obtain ⟨A, c, hA, hI⟩ := own_form (g.inrow v)
  rw [hA] at hlk
  replace hlk : (Instr.lookup 83 (.map (some mi)) (.int .i64 v) false).run Try.prog w = .ok (.slice A (pred E v).length c) w := hlk
  have hlen := pred_length E v
  have HI := hid hI
  clear hA hI g
  go_enter Try.func34, Try.ntmps34
  go_wp2_with (first
    | (go_at_call 67; refine (values_at A (pred E v).length c w).mono ?_; rintro e w' ⟨rfl, rfl⟩)
    | (go_at_call 65; refine (sorted_values_at w.heap.size c A (pred E v) (by omega) _ (cell_of_row _ _ 0 _ _ _ (heap_alloc_new w _)) (HI.out.grew (Only.alloc w _))).mono ?_; rintro e w' ⟨r, rfl, hr, hg⟩))
  go_ret
  exact ⟨r, rfl, hr.from (by simp), Grew.trans (Only.alloc w _) hg⟩
set_option maxHeartbeats 400000 in
theorem out_nil (v : Int) (w : World) : Calls Try.prog 26 #[.pointer none, .int .i64 v] w fun e w' => e = .returned (.slice none 0 0) ∧ w = w' := by
  go_enter Try.func26, Try.ntmps26
  go_wp2
  go_ret
  exact ⟨rfl, rfl⟩
set_option maxHeartbeats 400000 in
theorem in_nil (v : Int) (w : World) : Calls Try.prog 34 #[.pointer none, .int .i64 v] w fun e w' => e = .returned (.slice none 0 0) ∧ w = w' := by
  go_enter Try.func34, Try.ntmps34
  go_wp2
  go_ret
  exact ⟨rfl, rfl⟩
theorem run_len_map {P : Program} {w : World} {κ : Type} {enc : κ → Value} {ok : κ → Prop} {m : Nat} {kv : List (κ × Value)} (h : MapIs w m enc ok kv) {t k e : TypeId} (ht : P.underlying t = some (.map k e)) (ty : TypeId) : (Builtin.len_ #[t] ty #[.map (some m)]).run P w = .ok (.int .i64 kv.length) w := by
  obtain ⟨es, clock, hb, _, _, he, _⟩ := h
  have hl : es.size = kv.length := by have := congrArg List.length he; simpa using this
  rw [← hl]
  simp [Builtin.len_, run_underlying ht, MapKept.run_getObj_map hb, goInt, Result.andThen]
set_option maxHeartbeats 400000 in
theorem size_at (b : Nat) (n : Int) (E : List (Int × Int)) (F : Nat → Prop) (w : World) (hG : IsGraph w F b n E) : Calls Try.prog 38 #[.pointer (some ⟨b, 0, none⟩)] w fun e w' => e = .returned (.int .i64 E.length) ∧ w = w' := by
  obtain ⟨⟨me, mo, mi, KO, KI, g⟩, _⟩ := hG
  have k1 := cell_of_row _ _ 1 _ _ _ g.blk
  simp at k1
  have hl := fun ty => run_len_map g.edges Try.underlying82 ty
  simp only [List.length_map] at hl
  clear g
  go_enter Try.func38, Try.ntmps38
  go_wp2
  go_ret
  exact ⟨rfl, rfl⟩
set_option maxHeartbeats 400000 in
theorem size_nil (w : World) : Calls Try.prog 38 #[.pointer none] w fun e w' => e = .returned (.int .i64 0) ∧ w = w' := by
  go_enter Try.func38, Try.ntmps38
  go_wp2
  go_ret
  exact ⟨rfl, rfl⟩
theorem look_edge {w : World} {me : Nat} {E : List (Int × Int)} (h : MapIs w me encE okE (E.map (fun e => (e, .bool true)))) {u x : Int} (hok : okE (u, x)) :
    (Instr.lookup 82 (.map (some me)) (.agg #[.int .i64 u, .int .i64 x]) false).run Try.prog w = .ok (.bool (decide ((u, x) ∈ E))) w := by
  have h1 := (h.lookup keysE Try.underlying82 zeroBool hok).1
  have h2 : (mget (E.map (fun e => (e, Value.bool true))) (u, x)).getD (.bool false) = .bool (decide ((u, x) ∈ E)) := by
    by_cases hm : (u, x) ∈ E
    · rw [mget_of_mem h.nodup (List.mem_map.2 ⟨(u, x), hm, rfl⟩)]
      simp [hm]
    · rw [mget_none.2 (fun p hp e => by obtain ⟨e', he', rfl⟩ := List.mem_map.1 hp; exact hm (e ▸ he'))]
      simp [hm]
  rw [h2] at h1
  exact h1
set_option maxHeartbeats 400000 in
theorem has_at (b : Nat) (n u x : Int) (E : List (Int × Int)) (F : Nat → Prop) (w : World) (hG : IsGraph w F b n E) (hok : okE (u, x)) :
    Calls Try.prog 30 #[.pointer (some ⟨b, 0, none⟩), .agg #[.int .i64 u, .int .i64 x]] w fun e w' => e = .returned (.bool (decide ((u, x) ∈ E))) ∧ Grew w w' := by
  obtain ⟨⟨me, mo, mi, KO, KI, g⟩, _⟩ := hG
  have g1 := g.only (Only.alloc (F := fun _ => False) w (.cells #[.int .i64 u, .int .i64 x] 41)) (fun _ _ h => h)
  have k1 := cell_of_row _ _ 1 _ _ _ g1.blk
  simp at k1
  have hlk := fun nq => look_edge (g1.edges.only (Only.drewN (F := fun _ => False) _ nq) (fun h => h)) hok
  obtain ⟨r, hr⟩ : ∃ r : Bool, decide ((u, x) ∈ E) = r := ⟨_, rfl⟩
  simp only [hr] at hlk ⊢
  have c0 : (w.alloc (.cells #[.int .i64 u, .int .i64 x] 41)).cell? ⟨w.heap.size, 0, none⟩ = some (.int .i64 u) := cell_of_row _ _ 0 _ _ _ (heap_alloc_new w _)
  have c1 : (w.alloc (.cells #[.int .i64 u, .int .i64 x] 41)).cell? ⟨w.heap.size, 1, none⟩ = some (.int .i64 x) := cell_of_row _ _ 1 _ _ _ (heap_alloc_new w _)
  clear g g1 hr
  go_enter Try.func30, Try.ntmps30
  go_wp2_with fail
  go_quiet (fail)
  go_wp2
  go_ret
  exact ⟨rfl, Grew.trans (Only.alloc _ _) (Only.drewN _ _)⟩
set_option maxHeartbeats 400000 in
theorem has_nil (u x : Int) (w : World) : Calls Try.prog 30 #[.pointer none, .agg #[.int .i64 u, .int .i64 x]] w fun e w' => e = .returned (.bool false) ∧ Grew w w' := by
  go_enter Try.func30, Try.ntmps30
  go_wp2_with fail
  go_quiet (fail)
  go_wp2
  go_ret
  exact ⟨rfl, Grew.trans (Only.alloc _ _) (Only.drewN _ _)⟩
end Go.Proofs.Ytlpkolmaklnffaa
