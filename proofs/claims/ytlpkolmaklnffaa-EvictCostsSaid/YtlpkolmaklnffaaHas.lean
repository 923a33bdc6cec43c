/- The walk of the law DigraphHas. -/
import Derived.Test.YtlpkolmaklnffaaAlive
import Derived.Deep.RegionHeld3
namespace Go.Proofs.Ytlpkolmaklnffaa
open Go.RowKit Go.MapKept

theorem out_is (b : Nat) (n v : Int) (E : List (Int × Int)) (F : Nat → Prop) (w : World) (hG : IsGraph w F b n E) (hv : okI v) (hfew : E.length ≤ 1099511627776) :
    Calls Try.prog 26 #[.pointer (some ⟨b, 0, none⟩), .int .i64 v] w fun e w' => ∃ A c, e = .returned (.slice A (outL E v).length c) ∧ SlI w' A (outL E v) ∧ Grew w w' := by
  refine (out_at b n v E F w hG hv hfew).mono ?_
  rintro e w' ⟨r, rfl, hn, hg⟩
  obtain ⟨A, c, rfl, hi, _⟩ := hn.form
  exact ⟨A, c, rfl, hi, hg⟩
theorem in_is (b : Nat) (n v : Int) (E : List (Int × Int)) (F : Nat → Prop) (w : World) (hG : IsGraph w F b n E) (hv : okI v) (hfew : E.length ≤ 1099511627776) :
    Calls Try.prog 34 #[.pointer (some ⟨b, 0, none⟩), .int .i64 v] w fun e w' => ∃ A c, e = .returned (.slice A (inL E v).length c) ∧ SlI w' A (inL E v) ∧ Grew w w' := by
  refine (in_at b n v E F w hG hv hfew).mono ?_
  rintro e w' ⟨r, rfl, hn, hg⟩
  obtain ⟨A, c, rfl, hi, _⟩ := hn.form
  exact ⟨A, c, rfl, hi, hg⟩
theorem contains_is (A : Option Addr) (c : Nat) (xs : List Int) (x : Int) (w : World) (r : Bool) (h : decide (x ∈ xs) = r) (hx : SlI w A xs) (h1 : xs.length ≤ 9223372036854775807) :
    Calls Try.prog 33 #[.slice A xs.length c, .int .i64 x] w fun e w' => e = .returned (.bool r) ∧ w = w' := h ▸ contains_at A c xs x w hx h1
theorem has_is (b : Nat) (n u x : Int) (E : List (Int × Int)) (F : Nat → Prop) (w : World) (r : Bool) (h : decide ((u, x) ∈ E) = r) (hG : IsGraph w F b n E) (hok : okE (u, x)) :
    Calls Try.prog 30 #[.pointer (some ⟨b, 0, none⟩), .agg #[.int .i64 u, .int .i64 x]] w fun e w' => e = .returned (.bool r) ∧ Grew w w' := h ▸ has_at b n u x E F w hG hok
theorem rhas_is (b : Nat) (n : Int) (E : List (Int × Int)) (F : Nat → Prop) (y1 y2 : Int) (w : World) (r : Bool) (h : decide ((y1, y2) ∈ E) = r) (hG : IsRef w F b n E) :
    Calls Try.prog 31 #[.pointer (some ⟨b, 0, none⟩), .agg #[.int .i64 y1, .int .i64 y2]] w fun e w' => e = .returned (.bool r) ∧ Grew w w' := h ▸ rhas_at b n E F y1 y2 w hG
theorem mem_outL {E : List (Int × Int)} {u x : Int} : x ∈ outL E u ↔ (u, x) ∈ E := (sortL_perm _).mem_iff.trans mem_succ
theorem mem_inL {E : List (Int × Int)} {u x : Int} : u ∈ inL E x ↔ (u, x) ∈ E := (sortL_perm _).mem_iff.trans mem_pred
theorem outL_length (E : List (Int × Int)) (u : Int) : (outL E u).length ≤ E.length := by unfold outL; rw [sortL_length]; exact succ_length E u
theorem inL_length (E : List (Int × Int)) (u : Int) : (inL E u).length ≤ E.length := by unfold inL; rw [sortL_length]; exact pred_length E u
set_option maxRecDepth 100000 in
set_option maxHeartbeats 1000000 in
theorem lawhas_big (n : Int) (A : Option Addr) (c m : Nat) (u x : Int) (w : World) (h : n < 0 ∨ 30 < n ∨ 150 < m) :
    Calls Try.prog 6 #[.int .i64 n, .slice A m c, .agg #[.int .i64 u, .int .i64 x]] w fun e w' => e = .returned (.bool true) ∧ Grew w w' := by
  go_enter Try.func6, Try.ntmps6
  go_wp2_with (first
    | (go_at_call 21; refine (make_big n A c m _ h).mono ?_; rintro e w1 ⟨rfl, rfl⟩)
    | (go_at_call 22; refine (alive_at _).mono ?_; rintro e w2 ⟨rfl, hg⟩))
  go_ret
  exact ⟨rfl, Grew.trans (Only.alloc _ _) hg⟩
set_option maxRecDepth 100000 in
set_option maxHeartbeats 4000000 in
theorem lawhas_at (n : Int) (A : Option Addr) (c : Nat) (l : List (Int × Int)) (u x : Int) (w : World) (h0 : 0 ≤ n) (h1 : n ≤ 30) (hm : l.length ≤ 150) (hl : SlE w A l) (hlo : ∀ e ∈ l, okE e) (hux : okE (u, x)) :
    Calls Try.prog 6 #[.int .i64 n, .slice A l.length c, .agg #[.int .i64 u, .int .i64 x]] w fun e w' => e = .returned (.bool true) ∧ Grew w w' := by
  have HE := hid (addAll_length n [] l)
  have hl1 := hl.grew (Only.alloc w (.cells #[.int .i64 u, .int .i64 x] 39))
  have k0 : (w.alloc (.cells #[.int .i64 u, .int .i64 x] 39)).cell? ⟨w.heap.size, 0, none⟩ = some (.int .i64 u) := cell_of_row _ _ 0 _ _ _ (heap_alloc_new w _)
  have k1 : (w.alloc (.cells #[.int .i64 u, .int .i64 x] 39)).cell? ⟨w.heap.size, 1, none⟩ = some (.int .i64 x) := cell_of_row _ _ 1 _ _ _ (heap_alloc_new w _)
  have HK := hid (And.intro k0 k1)
  have HL := hid (And.intro hl1 (And.intro hlo hux))
  clear hl1 hl hlo k0 k1 hux
  go_enter Try.func6, Try.ntmps6
  go_wp2_with (go_at_call 21; refine (make_at n A c l _ h0 h1 hm HL.out.1 HL.out.2.1).mono ?_; rintro e w1 ⟨b, b2, rfl, hG, hR, hg⟩; have c0 := hg.cell HK.out.1 (fun h => h); have c1 := hg.cell HK.out.2 (fun h => h))
  generalize hEE : addAll n [] l = E at *
  obtain ⟨r, hr⟩ : ∃ r : Bool, decide ((u, x) ∈ E) = r := ⟨_, rfl⟩
  have H1 := hid (And.intro hG (And.intro hR hg))
  have HC := hid (And.intro c0 c1)
  have HRR := hid hr
  clear hG hR hg hEE hr
  go_wp2_with (go_at_call 31; refine (rhas_is b2 n E _ u x w1 r HRR.out H1.out.2.1).mono ?_; rintro e w2 ⟨rfl, hg2⟩)
  have HG2 := hid (fun w' (h : Grew w2 w') => (H1.out.1.grew hg2).grew h)
  have HS := hid (fun w' (h : Grew w2 w') => And.intro (h.cell (hg2.cell HC.out.1 (fun h => h)) (fun h => h)) (h.cell (hg2.cell HC.out.2 (fun h => h)) (fun h => h)))
  have H2 := hid hg2
  have hlen : Hid (E.length ≤ 1099511627776) := hid (by have := HE.out.2; simp at this; omega)
  have hlo : Hid ((outL E u).length ≤ 9223372036854775807) := hid (by have := outL_length E u; have := hlen.out; omega)
  have hli : Hid ((inL E x).length ≤ 9223372036854775807) := hid (by have := inL_length E x; have := hlen.out; omega)
  have hmo : Hid (decide (x ∈ outL E u) = r) := hid (by rw [← HRR.out]; simp only [mem_outL])
  have hmi : Hid (decide (u ∈ inL E x) = r) := hid (by rw [← HRR.out]; simp only [mem_inL])
  clear hg2 c0 c1
  generalize hB : w.heap.size = B at *
  cases r
  all_goals
    go_region_held3 (fun w' => w'.cell? ⟨B, 0, none⟩ = some (.int .i64 u) ∧ w'.cell? ⟨B, 1, none⟩ = some (.int .i64 x))
      (first
        | exact HS.out _ (Only.drew _)
        | exact HS.out _ ha
        | exact HS.out _ hh
        | exact HS.out _ ho
        | exact HS.out _ hi)
      (first
        | (go_at_call 22; refine (alive_at _).mono ?_; rintro e wa ⟨rfl, ha0⟩; have ha : Grew w2 wa := Grew.trans (Only.drew _) ha0)
        | (go_at_call 30; refine (has_is b n u x E _ wa _ HRR.out (HG2.out wa ha) HL.out.2.2).mono ?_; rintro e wh ⟨rfl, hh0⟩; have hh : Grew w2 wh := Grew.trans ha hh0)
        | (go_at_call 26; refine (out_is b n u E _ wh (HG2.out wh hh) HL.out.2.2.1 hlen.out).mono ?_; rintro e wo ⟨Ao, co, rfl, hio, ho0⟩; have ho : Grew w2 wo := Grew.trans hh ho0)
        | (go_at_call 34; refine (in_is b n x E _ wo (HG2.out wo ho) HL.out.2.2.2 hlen.out).mono ?_; rintro e wi ⟨Ai, ci, rfl, hii, hi0⟩; have hi : Grew w2 wi := Grew.trans ho hi0)
        | (go_at_call 33; refine (contains_is Ai ci (inL E x) u wi _ hmi.out hii hli.out).mono ?_; rintro e w' ⟨rfl, rfl⟩)
        | (go_at_call 33; refine (contains_is Ao co (outL E u) x wo _ hmo.out hio hlo.out).mono ?_; rintro e w' ⟨rfl, rfl⟩))
    go_wp2
    go_ret
    exact ⟨rfl, Grew.trans (Only.alloc _ _) (Grew.trans H1.out.2.2 (Grew.trans H2.out hi))⟩
end Go.Proofs.Ytlpkolmaklnffaa
