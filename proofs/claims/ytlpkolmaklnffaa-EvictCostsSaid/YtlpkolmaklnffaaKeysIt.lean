/- slices.Sorted(maps.Keys(m)) at map[int]bool. -/
import Derived.Test.YtlpkolmaklnffaaSorted
import Derived.Test.YtlpkolmaklnffaaKeys
import Derived.Lib.SlKeysI
namespace Go.Proofs.Ytlpkolmaklnffaa
open Go.RowKit Go.Shelf Go.Sort Go.Maps Go.MapKept
open Go.WideElems (rg rg_of)
open Go.WideShapes (sorted_perm)

def valInt : Value → Int | .int _ x => x | _ => 0
abbrev anyElem : Value → Option (DataW Unit × List MemPlace) := fun _ => some (.nil, [])
theorem owns_of_mapIs_any {P : Program} {k : TypeId} (hk : P.underlying k = some (.int .i64)) {w : World} {ms : Nat} {kv : List (Int × Value)} (h : MapIs w ms encI okI kv) :
    ∃ D : DataW Unit, w.ownsMap P k anyElem ms kv.length D ∧ (intKeys D).Perm (kv.map (·.1)) ∧ Maps.size D = kv.length := by
  obtain ⟨es, clock, hb, hs, hz, he, hok⟩ := h
  have hlen : es.size = kv.length := by have := congrArg List.length he; simpa using this
  have hent : ∀ e ∈ es.toList, ∃ x, e.key = encI x ∧ okI x := fun e hem => by
    have : (e.key, e.val) ∈ es.toList.map (fun e => (e.key, e.val)) := List.mem_map.2 ⟨e, hem, rfl⟩
    rw [he] at this
    obtain ⟨p, hp, hpe⟩ := List.mem_map.1 this
    simp only [Prod.mk.injEq] at hpe
    exact ⟨p.1, hpe.1.symm, hok p hp⟩
  have hrd : ∀ e ∈ es.toList, WideElems.rd P k anyElem e = some (.int .i64 (valInt e.key), .nil) := fun e hem => by
    obtain ⟨x, hx, hxo⟩ := hent e hem
    rw [hx]
    unfold WideElems.rd
    rw [hx, encI, keyOf_int_mk hk (wf_of_okI hxo)]
    rfl
  refine ⟨_, ⟨es, clock, hb, ⟨hz, hs, fun e hem => ⟨_, hrd e hem⟩⟩, by omega, rfl⟩, ?_, ?_⟩
  · have h1 : (es.toList.map (rg P k anyElem)).map (fun p => _root_.Go.intOf p.1) = kv.map (·.1) := by
      have h2 : (es.toList.map (rg P k anyElem)).map (fun p => _root_.Go.intOf p.1) = (es.toList.map (fun e => (e.key, e.val))).map (fun q => valInt q.1) := by
        rw [List.map_map, List.map_map]
        refine List.map_congr_left (fun e hem => ?_)
        exact congrArg (fun p : Lit × DataW Unit => _root_.Go.intOf p.1) (rg_of (hrd e hem))
      rw [h2, he, List.map_map]
      rfl
    rw [← h1]
    have h3 := (sorted_perm (es.toList.map (rg P k anyElem))).map (fun p => _root_.Go.intOf p.1)
    exact h3
  · simp only [Maps.size, length_sorted, List.length_map, Array.length_toList]
    exact hlen
theorem owns_of_mapIs {w : World} {ms : Nat} {kv : List (Int × Value)} (h : MapIs w ms encI okI kv) :
    ∃ D : DataW Unit, w.ownsMap Try.prog 3 anyElem ms kv.length D ∧ (intKeys D).Perm (kv.map (·.1)) ∧ Maps.size D = kv.length := owns_of_mapIs_any Try.underlying3 h
/-- maps.Keys(m). -/
theorem keys_at (mb : Option Nat) (w : World) : Calls Try.prog 66 #[.map mb] w fun e w' => e = .returned (.func (.func 89) #[] #[.pointer (some ⟨w.heap.size, 0, none⟩)]) ∧ w.alloc (.cells #[.map mb] 81) = w' := by
  have h : CallsIn Fence.wide 5 Try.prog 66 #[.map mb] w fun e w' => e = .returned (.func (.func 89) #[] #[.pointer (some ⟨w.heap.size, 0, none⟩)]) ∧ w' = w.alloc (.cells #[.map mb] 81) := AnyZI.keys_in Try.keysA Fence.wide 5 trivial rfl mb w
  exact ((callsIn_wide (n := 5)).1 h).mono fun _ _ ⟨h1, h2⟩ => ⟨h1, h2.symm⟩
/-- slices.Sorted(maps.Keys(m)). -/
theorem sorted_keys_at (Bm ms : Nat) (kv : List (Int × Value)) (hbytes : kv.length * 8 ≤ 140737488351232) (w : World) (hc : w.cell? ⟨Bm, 0, none⟩ = some (.map (some ms))) (h : MapIs w ms encI okI kv) :
    Calls Try.prog 65 #[.func (.func 89) #[] #[.pointer (some ⟨Bm, 0, none⟩)]] w fun e w' => ∃ v, e = .returned v ∧ NewInts w w' v (sortL (kv.map (·.1))) ∧ Grew w w' := by
  obtain ⟨D, hown, hperm, hsz⟩ := owns_of_mapIs h
  have hseq : SeqGives Fence.wide 3 Try.prog 89 #[.pointer (some ⟨Bm, 0, none⟩)] encZ (fun ss => ss.Perm (intKeys D)) (Maps.size D) w :=
    AnyZI.keys_gives (ρ := Try.keysA_ren) { Try.keysA with } Fence.wide _ trivial rfl (by omega) Bm ms kv.length D _ (World.block_lt_of_cell? w _ hc) hc hown
  have cS := AnyZI.sorted_in Try.sortedA Fence.wide 6 trivial trivial trivial trivial rfl (by omega) (sortsA _) (enters_of Try.func88 (by kernel_rfl) rfl) 89 #[.pointer (some ⟨Bm, 0, none⟩)] trivial (enters_of Try.func89 (by kernel_rfl) rfl) _ (Maps.size D) (by rw [hsz]; unfold maxLen; omega) (by rw [hsz]; omega) w hseq
  refine ((callsIn_wide (n := 6)).1 (show CallsIn Fence.wide 6 Try.prog 65 _ _ _ from cS)).mono fun e w' => ?_
  rintro ⟨v, ss, rfl, hS, hrow, _, hb⟩
  refine ⟨v, rfl, ?_, Only.of_below hb (Nat.le_refl _)⟩
  have h1 : sortL (kv.map (·.1)) = sortL ss := sortL_congr ((hS.trans hperm).symm)
  unfold NewInts
  rw [h1, sortL_length]
  exact hrow
end Go.Proofs.Ytlpkolmaklnffaa
