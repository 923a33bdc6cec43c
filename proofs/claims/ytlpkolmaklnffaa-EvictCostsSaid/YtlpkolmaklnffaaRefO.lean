/- The walks of the reference's Out, In. -/
import Derived.Test.YtlpkolmaklnffaaHas
namespace Go.Proofs.Ytlpkolmaklnffaa
open Go.RowKit Go.MapKept

set_option maxRecDepth 100000 in
set_option maxHeartbeats 1000000 in
theorem rout_at (b N : Nat) (v : Int) (E : List (Int × Int)) (F : Nat → Prop) (w : World) (hG : IsRef w F b N E) (hN : N ≤ 1048576) :
    Calls Try.prog 70 #[.pointer (some ⟨b, 0, none⟩), .int .i64 v] w fun e w' => ∃ r, e = .returned r ∧ NewInts w w' r ((verts N).filter (fun x => decide ((v, x) ∈ E))) ∧ Grew w w' := by
  obtain ⟨i1, hi1, hz1, hz2, hz3⟩ := info_parts info_int
  have HI := hid (And.intro hi1 (And.intro hz1 (And.intro hz2 hz3)))
  clear hi1 hz1 hz2 hz3
  have HG := hid hG
  clear hG
  go_enter Try.func70, Try.ntmps70
  go_wp2
  go_loopw [5, 6] (fun xv i wr => ∃ k : Nat, k ≤ N ∧ i = .int .i64 k ∧ wr.ownsRow w.heap.size 3 1 xv (((verts N).take k).filter (fun x => decide ((v, x) ∈ E))).length ((((verts N).take k).filter (fun x => decide ((v, x) ∈ E))).map (Value.int .i64)) ∧
         (((verts N).take k).filter (fun x => decide ((v, x) ∈ E))).length ≤ k ∧ Only (fun i => w.heap.size ≤ i) w wr) (fun _ i _ => N - (intOf i).toNat)
  case atStart => exact ⟨0, by omega, rfl, ⟨by simp, .inl ⟨rfl, by simp⟩⟩, by simp, Only.refl _ _⟩
  case round =>
    obtain ⟨k, hk, rfl, hrow, hlen, hO⟩ := hrel
    have hG1 := HG.out.grew (Fresh.grew hO)
    have k1 : wr.cell? ⟨b, 0, none⟩ = some (.int .i64 N) := by
      obtain ⟨A', c', g⟩ := hG1
      exact cell_of_row _ _ 0 _ _ _ g.blk
    have HG1 := hid hG1
    have hOs := hO.size
    clear hG1
    by_cases hlt : k < N
    · have htk := verts_take_succ N k hlt
      have hb0 : (k : Int) < (N : Int) := by omega
      obtain ⟨r, hr⟩ : ∃ r : Bool, decide ((v, (k : Int)) ∈ E) = r := ⟨_, rfl⟩
      have HBK := hid hr
      have HTK := hid htk
      have HR := hid hrow
      have HOO := hid hO
      have HL := hid hlen
      clear htk hrow hO hlen hr
      generalize hL : ((verts N).take k).filter (fun x => decide ((v, x) ∈ E)) = L at *
      cases r
      · go_wp2_with (go_at_call 31; refine (rhas_is b N E _ v k wr _ HBK.out HG1.out).mono ?_; rintro e w2 ⟨rfl, hg2⟩)
        have HG2 := hid hg2
        clear hg2
        go_roundw
        case rel =>
          have hfl : ((verts N).take (k + 1)).filter (fun x => decide ((v, x) ∈ E)) = L := by
            rw [HTK.out, List.filter_append, hL]
            simpa using HBK.out
          exact ⟨k + 1, by omega, by go_num, hfl ▸ own_only HR.out HG2.out (fun _ _ h => h), by rw [hfl]; have := HL.out; omega, HOO.out.trans HG2.out (fun _ _ h => h.elim)⟩
        case measure => simp [intOf]; omega
      · go_wp2_with (first
          | (go_at_call 31; refine (rhas_is b N E _ v k wr _ HBK.out HG1.out).mono ?_; rintro e w2 ⟨rfl, hg2⟩; have HG2 := hid hg2; have hs2 := hg2.size; clear hg2)
          | (at_builtin; go_loud (refine wpList_append_own _ rfl (.tmp 20) (.tmp 22) 29 rfl w.heap.size 3 i1 _ 1 8 Try.underlying29 HI.out.1 HI.out.2.1 HI.out.2.2.1 HI.out.2.2.2 rfl (by omega) _ L.length (L.map (Value.int .i64)) rfl (own_only HR.out (Grew.trans HG2.out (Only.alloc (F := fun _ => False) _ _)) (fun _ _ h => h)) _ 1 1 [.int .i64 k] rfl rfl (new_one _ _ _) (by simp [Value.oneCell']) (by unfold maxLen; have := HL.out; omega) (by have := HL.out; omega) (by simp; omega) ?_; intro xv2 w2' hown2 hgrow2 _)))
        have hk2 : Only (fun i => w.heap.size ≤ i) (w2.alloc (.cells #[.int .i64 (k : Int)] 3)) w2' := Only.of_grownBy hgrow2 (fun i e => .inl (by
          rcases HR.out.2 with ⟨rfl, _⟩ | ⟨gg, cap, cur, rfl, hgg, _⟩
          · replace e : Value.ownBlock (.slice none 0 0) = some i := e
            cases e
          · cases e; exact hgg))
        have hO2 : Only (fun i => w.heap.size ≤ i) w w2' := (HOO.out.trans HG2.out (fun _ _ h => h.elim)).trans ((Only.alloc (F := fun i => w.heap.size ≤ i) w2 _).trans hk2 (fun _ _ h => h)) (fun _ _ h => h)
        have HFIN := hid (And.intro hown2 hO2)
        clear hown2 hgrow2 hk2 hO2
        go_wp2
        go_roundw
        case rel =>
          obtain ⟨a1, a3⟩ := HFIN.out
          have hfl : ((verts N).take (k + 1)).filter (fun x => decide ((v, x) ∈ E)) = L ++ [(k : Int)] := by
            rw [HTK.out, List.filter_append, hL]
            simpa using HBK.out
          refine ⟨k + 1, by omega, by go_num, ?_, ?_, a3⟩
          · rw [hfl]; simpa using a1
          · rw [hfl]; have := HL.out; simp; omega
        case measure => simp [intOf]; omega
    · obtain rfl : k = N := by omega
      have HFIN := hid (And.intro hrow hO)
      clear hrow hO hlen
      go_wp2
      go_ret
      have h1 := HFIN.out.1
      rw [List.take_of_length_le (by simp [verts])] at h1
      exact ⟨_, rfl, h1, Fresh.grew HFIN.out.2⟩
set_option maxRecDepth 100000 in
set_option maxHeartbeats 1000000 in
theorem rin_at (b N : Nat) (v : Int) (E : List (Int × Int)) (F : Nat → Prop) (w : World) (hG : IsRef w F b N E) (hN : N ≤ 1048576) :
    Calls Try.prog 71 #[.pointer (some ⟨b, 0, none⟩), .int .i64 v] w fun e w' => ∃ r, e = .returned r ∧ NewInts w w' r ((verts N).filter (fun x => decide ((x, v) ∈ E))) ∧ Grew w w' := by
  obtain ⟨i1, hi1, hz1, hz2, hz3⟩ := info_parts info_int
  have HI := hid (And.intro hi1 (And.intro hz1 (And.intro hz2 hz3)))
  clear hi1 hz1 hz2 hz3
  have HG := hid hG
  clear hG
  go_enter Try.func71, Try.ntmps71
  go_wp2
  go_loopw [5, 6] (fun xv i wr => ∃ k : Nat, k ≤ N ∧ i = .int .i64 k ∧ wr.ownsRow w.heap.size 3 1 xv (((verts N).take k).filter (fun x => decide ((x, v) ∈ E))).length ((((verts N).take k).filter (fun x => decide ((x, v) ∈ E))).map (Value.int .i64)) ∧
         (((verts N).take k).filter (fun x => decide ((x, v) ∈ E))).length ≤ k ∧ Only (fun i => w.heap.size ≤ i) w wr) (fun _ i _ => N - (intOf i).toNat)
  case atStart => exact ⟨0, by omega, rfl, ⟨by simp, .inl ⟨rfl, by simp⟩⟩, by simp, Only.refl _ _⟩
  case round =>
    obtain ⟨k, hk, rfl, hrow, hlen, hO⟩ := hrel
    have hG1 := HG.out.grew (Fresh.grew hO)
    have k1 : wr.cell? ⟨b, 0, none⟩ = some (.int .i64 N) := by
      obtain ⟨A', c', g⟩ := hG1
      exact cell_of_row _ _ 0 _ _ _ g.blk
    have HG1 := hid hG1
    have hOs := hO.size
    clear hG1
    by_cases hlt : k < N
    · have htk := verts_take_succ N k hlt
      have hb0 : (k : Int) < (N : Int) := by omega
      obtain ⟨r, hr⟩ : ∃ r : Bool, decide (((k : Int), v) ∈ E) = r := ⟨_, rfl⟩
      have HBK := hid hr
      have HTK := hid htk
      have HR := hid hrow
      have HOO := hid hO
      have HL := hid hlen
      clear htk hrow hO hlen hr
      generalize hL : ((verts N).take k).filter (fun x => decide ((x, v) ∈ E)) = L at *
      cases r
      · go_wp2_with (go_at_call 31; refine (rhas_is b N E _ k v wr _ HBK.out HG1.out).mono ?_; rintro e w2 ⟨rfl, hg2⟩)
        have HG2 := hid hg2
        clear hg2
        go_roundw
        case rel =>
          have hfl : ((verts N).take (k + 1)).filter (fun x => decide ((x, v) ∈ E)) = L := by
            rw [HTK.out, List.filter_append, hL]
            simpa using HBK.out
          exact ⟨k + 1, by omega, by go_num, hfl ▸ own_only HR.out HG2.out (fun _ _ h => h), by rw [hfl]; have := HL.out; omega, HOO.out.trans HG2.out (fun _ _ h => h.elim)⟩
        case measure => simp [intOf]; omega
      · go_wp2_with (first
          | (go_at_call 31; refine (rhas_is b N E _ k v wr _ HBK.out HG1.out).mono ?_; rintro e w2 ⟨rfl, hg2⟩; have HG2 := hid hg2; have hs2 := hg2.size; clear hg2)
          | (at_builtin; go_loud (refine wpList_append_own _ rfl (.tmp 20) (.tmp 22) 29 rfl w.heap.size 3 i1 _ 1 8 Try.underlying29 HI.out.1 HI.out.2.1 HI.out.2.2.1 HI.out.2.2.2 rfl (by omega) _ L.length (L.map (Value.int .i64)) rfl (own_only HR.out (Grew.trans HG2.out (Only.alloc (F := fun _ => False) _ _)) (fun _ _ h => h)) _ 1 1 [.int .i64 k] rfl rfl (new_one _ _ _) (by simp [Value.oneCell']) (by unfold maxLen; have := HL.out; omega) (by have := HL.out; omega) (by simp; omega) ?_; intro xv2 w2' hown2 hgrow2 _)))
        have hk2 : Only (fun i => w.heap.size ≤ i) (w2.alloc (.cells #[.int .i64 (k : Int)] 3)) w2' := Only.of_grownBy hgrow2 (fun i e => .inl (by
          rcases HR.out.2 with ⟨rfl, _⟩ | ⟨gg, cap, cur, rfl, hgg, _⟩
          · replace e : Value.ownBlock (.slice none 0 0) = some i := e
            cases e
          · cases e; exact hgg))
        have hO2 : Only (fun i => w.heap.size ≤ i) w w2' := (HOO.out.trans HG2.out (fun _ _ h => h.elim)).trans ((Only.alloc (F := fun i => w.heap.size ≤ i) w2 _).trans hk2 (fun _ _ h => h)) (fun _ _ h => h)
        have HFIN := hid (And.intro hown2 hO2)
        clear hown2 hgrow2 hk2 hO2
        go_wp2
        go_roundw
        case rel =>
          obtain ⟨a1, a3⟩ := HFIN.out
          have hfl : ((verts N).take (k + 1)).filter (fun x => decide ((x, v) ∈ E)) = L ++ [(k : Int)] := by
            rw [HTK.out, List.filter_append, hL]
            simpa using HBK.out
          refine ⟨k + 1, by omega, by go_num, ?_, ?_, a3⟩
          · rw [hfl]; simpa using a1
          · rw [hfl]; have := HL.out; simp; omega
        case measure => simp [intOf]; omega
    · obtain rfl : k = N := by omega
      have HFIN := hid (And.intro hrow hO)
      clear hrow hO hlen
      go_wp2
      go_ret
      have h1 := HFIN.out.1
      rw [List.take_of_length_le (by simp [verts])] at h1
      exact ⟨_, rfl, h1, Fresh.grew HFIN.out.2⟩
end Go.Proofs.Ytlpkolmaklnffaa
