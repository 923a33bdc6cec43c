/- The law package's edges, Make. -/
import Derived.Test.YtlpkolmaklnffaaRefR
import Derived.Test.YtlpkolmaklnffaaDig4
namespace Go.Proofs.Ytlpkolmaklnffaa
open Go.RowKit Go.MapKept

theorem info_edge : (Try.prog.info? 41).map (fun i => (i.zero, i.size, i.bytes)) = some (some (.agg #[.int .i64 0, .int .i64 0]), 2, 16) := by kernel_rfl
theorem new_two (w : World) (b : Nat) (hb : w.heap.size = b) (x y : Value) (t : TypeId) : ∀ j u, [x, y][j]? = some u → (w.alloc (.cells #[x, y] t)).cell? ((⟨b, 0, none⟩ : Addr).add j) = some u := by
  subst hb
  intro j u h
  rw [add_none, Nat.zero_add]
  match j with
  | 0 =>
    simp at h
    subst h
    exact cell_of_row _ _ 0 _ _ _ (heap_alloc_new w _)
  | 1 =>
    simp at h
    subst h
    exact cell_of_row _ _ 1 _ _ _ (heap_alloc_new w _)
  | j + 2 => simp at h
theorem cellsE_snoc (E : List (Int × Int)) {k : Nat} {u x : Int} (h : E[k]? = some (u, x)) : cellsE (E.take (k + 1)) = cellsE (E.take k) ++ [.int .i64 u, .int .i64 x] := by
  unfold cellsE
  rw [List.take_add_one, h, List.flatMap_append]
  rfl
theorem own_only2 {F : Nat → Prop} {w w' : World} {base e size : Nat} {v : Value} {m : Nat} {xs : List Value} (h : w.ownsRow base e size v m xs) (k : Only F w w') (hn : ∀ i, base ≤ i → ¬ F i) : w'.ownsRow base e size v m xs := by
  refine ⟨h.1, ?_⟩
  rcases h.2 with h2 | ⟨g, cap, cur, rfl, hb, hh, r⟩
  · exact .inl h2
  · exact .inr ⟨g, cap, cur, rfl, hb, k.heap hh (hn _ hb), r⟩
set_option maxRecDepth 100000 in
set_option maxHeartbeats 400000 in
theorem edges_at (A : Option Addr) (c : Nat) (E : List (Int × Int)) (w : World) (hl : SlE w A E) (hfew : E.length ≤ 1048576) :
    Calls Try.prog 64 #[.slice A E.length c] w fun e w' => ∃ A' c', e = .returned (.slice A' E.length c') ∧ SlE w' A' E ∧ (∀ blk off, A' = some ⟨blk, off, none⟩ → w.heap.size ≤ blk) ∧ Grew w w' := by
  obtain ⟨i1, hi1, hz1, hz2, hz3⟩ := info_parts info_edge
  have HI := hid (And.intro hi1 (And.intro hz1 (And.intro hz2 hz3)))
  clear hi1 hz1 hz2 hz3
  go_enter Try.func64, Try.ntmps64
  go_wp2
  go_loopw [3, 8] (fun xv i wr => ∃ k : Nat, k ≤ E.length ∧ i = .int .i64 k ∧ wr.ownsRow w.heap.size 41 2 xv k (cellsE (E.take k)) ∧ Only (fun i => w.heap.size ≤ i) w wr) (fun _ i _ => E.length - (intOf i).toNat)
  case atStart => exact ⟨0, by omega, rfl, ⟨rfl, .inl ⟨rfl, rfl⟩⟩, Only.refl _ _⟩
  case round =>
    obtain ⟨k, hk, rfl, hrow, hO⟩ := hrel
    have hsl := hl.only (Fresh.grew hO) (fun _ _ _ h => h)
    have hOs := hO.size
    have HR := hid hrow
    have HO := hid hO
    clear hrow hO
    by_cases hlt : k < E.length
    · obtain ⟨bl, off, rfl, hcell⟩ := hsl (by omega)
      obtain ⟨h1, h2⟩ := hcell k hlt
      obtain ⟨⟨u, x⟩, hux⟩ : ∃ p, E[k]? = some p := ⟨E[k], by simp [hlt]⟩
      simp only [hux, Option.getD_some] at h1 h2
      have hsn := cellsE_snoc E hux
      have HSN := hid hsn
      have hb0 : (k : Int) < (E.length : Int) := by omega
      clear hcell hsl hux hsn
      generalize hL : cellsE (E.take k) = L at *
      go_wp2_with (at_builtin; (refine wpList_append_own _ rfl (.tmp 12) (.tmp 14) 79 rfl w.heap.size 41 i1 _ 2 16 Try.underlying79 HI.out.1 HI.out.2.1 HI.out.2.2.1 HI.out.2.2.2 rfl (by omega) _ k L rfl (own_only2 HR.out ((Only.alloc (F := fun _ => False) _ _).trans (Only.alloc (F := fun _ => False) _ _) (fun _ _ h => h)) (fun _ _ h => h)) _ 1 1 [.int .i64 u, .int .i64 x] rfl rfl (new_two _ _ (by simp) _ _ _) (by simp [Value.oneCell']) (by unfold maxLen; omega) (by omega) (by simp; omega) ?_; intro xv2 w2 hown2 hgrow2 _))
      have hk2 : Only (fun i => w.heap.size ≤ i) ((wr.alloc (.cells #[.int .i64 u, .int .i64 x] 39)).alloc (.cells #[.int .i64 u, .int .i64 x] 41)) w2 := Only.of_grownBy hgrow2 (fun i e => .inl (by
        rcases HR.out.2 with ⟨rfl, _⟩ | ⟨gg, cap, cur, rfl, hgg, _⟩
        · replace e : Value.ownBlock (.slice none 0 0) = some i := e
          cases e
        · cases e; exact hgg))
      have hO2 : Only (fun i => w.heap.size ≤ i) w w2 := HO.out.trans ((Only.alloc (F := fun i => w.heap.size ≤ i) wr _).trans ((Only.alloc _ _).trans hk2 (fun _ _ h => h)) (fun _ _ h => h)) (fun _ _ h => h)
      have HFIN := hid (And.intro hown2 hO2)
      clear hown2 hgrow2 hk2 hO2
      go_wp2
      go_roundw
      case rel => exact ⟨k + 1, by omega, by go_num, by rw [HSN.out]; exact HFIN.out.1, HFIN.out.2⟩
      case measure => simp [intOf]; omega
    · obtain rfl : k = E.length := by omega
      go_wp2
      go_ret
      have hr := HR.out
      rw [List.take_length] at hr
      rcases hr.2 with ⟨rfl, h0⟩ | ⟨gg, cap, cur, rfl, hgg, _⟩
      · obtain rfl := List.eq_nil_of_length_eq_zero h0
        exact ⟨none, 0, rfl, SlE.nil, (fun _ _ h => by cases h), Fresh.grew HO.out⟩
      · exact ⟨_, _, rfl, SlE.of_own hr, (fun _ _ h => by cases h; exact hgg), Fresh.grew HO.out⟩

theorem IsRef.new (w : World) (n : Int) : IsRef (w.alloc (.cells #[.int .i64 n, .slice none 0 0] 37)) (fun i => i = w.heap.size) w.heap.size n [] :=
  ⟨none, 0, heap_alloc_new w _, SlE.nil, Nat.le_refl _, by unfold maxLen; omega, rfl, (fun _ _ h => by cases h), (fun _ _ h => by cases h)⟩
set_option maxRecDepth 100000 in
set_option maxHeartbeats 400000 in
theorem make_big (n : Int) (A : Option Addr) (c m : Nat) (w : World) (h : n < 0 ∨ 30 < n ∨ 150 < m) :
    Calls Try.prog 21 #[.int .i64 n, .slice A m c] w fun e w' => e = .returned (.tuple #[.pointer none, .pointer none]) ∧ w = w' := by
  by_cases h0 : n < 0
  · have h2 : decide (n < 0) = true := by simp; omega
    go_enter Try.func21, Try.ntmps21
    go_wp2
    go_ret2
    exact ⟨rfl, rfl⟩
  · have h2 : decide (n < 0) = false := by simp; omega
    by_cases h1 : 30 < n
    · have h3 : decide (30 < n) = true := by simp; omega
      go_enter Try.func21, Try.ntmps21
      go_wp2
      go_ret2
      exact ⟨rfl, rfl⟩
    · have h3 : decide (30 < n) = false := by simp; omega
      have h4 : decide ((150 : Int) < (m : Int)) = true := by simp; omega
      go_enter Try.func21, Try.ntmps21
      go_wp2
      go_ret2
      exact ⟨rfl, rfl⟩
theorem SlE.lt {w : World} {A : Option Addr} {E : List (Int × Int)} (h : SlE w A E) (hp : 0 < E.length) (blk off : Nat) (e : A = some ⟨blk, off, none⟩) : blk < w.heap.size := by
  obtain ⟨b, o, rfl, hc⟩ := h hp
  cases e
  exact World.block_lt_of_cell? w _ (hc 0 hp).1
theorem radd_nil (b : Nat) (A : Option Addr) (c : Nat) (w : World) : Calls Try.prog 29 #[.pointer (some ⟨b, 0, none⟩), .slice A 0 c] w fun e w' => e = .returned (.int .i64 0) ∧ w = w' := by
  go_enter Try.func29, Try.ntmps29
  go_wp2
  refine wp_loop_rounds 1 ?_
  rw [rounds_succ]
  go_wp2
  go_ret
  exact ⟨rfl, rfl⟩
theorem radd_any (b : Nat) (n : Int) (E : List (Int × Int)) (F : Nat → Prop) (A : Option Addr) (c : Nat) (l : List (Int × Int)) (w : World) (hG : IsRef w F b n E) (hl : SlE w A l) (hfew : E.length + l.length ≤ 1099511627776) (hA : 0 < l.length → ∀ blk off, A = some ⟨blk, off, none⟩ → ¬ F blk) :
    Calls Try.prog 29 #[.pointer (some ⟨b, 0, none⟩), .slice A l.length c] w fun e w' => e = .returned (.int .i64 ((addAll n E l).length - E.length : Nat)) ∧
      IsRef w' (fun k => F k ∨ (w.heap.size ≤ k ∧ k < w'.heap.size)) b n (addAll n E l) ∧ Only F w w' := by
  rcases Nat.eq_zero_or_pos l.length with h0 | h0
  · obtain rfl : l = [] := List.eq_nil_of_length_eq_zero h0
    refine (radd_nil b A c w).mono ?_
    rintro e w' ⟨rfl, rfl⟩
    exact ⟨by simp [addAll], hG.mono (fun _ _ h => .inl h), Only.refl _ _⟩
  · exact radd_at b n E F A c l w hG hl hfew (hA h0)
set_option maxRecDepth 100000 in
set_option maxHeartbeats 400000 in
theorem make_at (n : Int) (A : Option Addr) (c : Nat) (l : List (Int × Int)) (w : World) (h0 : 0 ≤ n) (h1 : n ≤ 30) (hm : l.length ≤ 150) (hl : SlE w A l) (hlo : ∀ e ∈ l, okE e) :
    Calls Try.prog 21 #[.int .i64 n, .slice A l.length c] w fun e w' => ∃ b b2, e = .returned (.tuple #[.pointer (some ⟨b, 0, none⟩), .pointer (some ⟨b2, 0, none⟩)]) ∧
      IsGraph w' (fun k => w.heap.size ≤ k ∧ k < w'.heap.size) b n (addAll n [] l) ∧ IsRef w' (fun k => w.heap.size ≤ k ∧ k < w'.heap.size) b2 n (addAll n [] l) ∧ Grew w w' := by
  have h2 : decide (n < 0) = false := by simp; omega
  have h3 : decide (30 < n) = false := by simp; omega
  have h4 : decide ((150 : Int) < (l.length : Int)) = false := by simp; omega
  have HL := hid (And.intro hl hlo)
  clear hl hlo
  go_enter Try.func21, Try.ntmps21
  go_wp2_with (go_at_call 27; refine (new_ok n w h0 (by omega)).mono ?_; rintro e w1 ⟨b, rfl, hG, hg1⟩)
  have hR := IsRef.new w1 n
  have hG2 := hG.grew (Only.alloc (F := fun _ => False) w1 (.cells #[.int .i64 n, .slice none 0 0] 37))
  have hlt := hg1.size
  have H1 := hid (And.intro hG2 (And.intro hR (And.intro hg1 hlt)))
  clear hG hG2 hR hg1 hlt
  have hgw : Hid (Grew w (w1.alloc (.cells #[.int .i64 n, .slice none 0 0] 37))) := hid (Grew.trans H1.out.2.2.1 (Only.alloc _ _))
  go_wp2_with (go_at_call 64; refine (edges_at A c l _ (HL.out.1.grew hgw.out) (by omega)).mono ?_; rintro e w2 ⟨A', c', rfl, hl2, hA2, hg2⟩)
  have H2 := hid (And.intro hl2 (And.intro hA2 hg2))
  clear hl2 hA2 hg2
  go_wp2_with (go_at_call 28; refine (add_at b n [] _ A' c' l w2 (H1.out.1.grew H2.out.2.2) H2.out.1 HL.out.2 (by simp; omega) (fun blk off e => by have := H2.out.2.1 blk off e; simp at this; omega)).mono ?_; rintro e w3 ⟨rfl, hG3, hO3⟩)
  have hs1 := hgw.out.size
  have hs2 := H2.out.2.2.size
  have hs3 := hO3.size
  simp only [World.size_alloc] at hs1 hs2
  have hR3 := (H1.out.2.1.grew H2.out.2.2).only hO3 (fun i hi h => by omega)
  have hO03 : Only (fun i => w.heap.size ≤ i) w w3 := (Grew.to (Grew.trans hgw.out H2.out.2.2)).trans hO3 (fun _ _ h => h.1)
  have H3 := hid (And.intro hG3 (And.intro hO3 (And.intro hR3 hO03)))
  clear hG3 hO3 hR3 hO03
  go_wp2_with (go_at_call 29; refine (radd_any w1.heap.size n [] _ A c l w3 H3.out.2.2.1 (HL.out.1.grew (Fresh.grew H3.out.2.2.2)) (by simp; omega) (fun hp blk off e h => by have := HL.out.1.lt hp blk off e; have := H1.out.2.2.2; omega)).mono ?_; rintro e w4 ⟨rfl, hR4, hO4⟩)
  go_ret2
  have hs4 := hO4.size
  have hs0 := H1.out.2.2.2
  refine ⟨b, w1.heap.size, rfl, (H3.out.1.only hO4 (fun i hi h => by omega)).mono (fun i _ h => by omega), hR4.mono (fun i _ h => by omega), Fresh.grew (H3.out.2.2.2.trans hO4 (fun i _ h => by omega))⟩
end Go.Proofs.Ytlpkolmaklnffaa
