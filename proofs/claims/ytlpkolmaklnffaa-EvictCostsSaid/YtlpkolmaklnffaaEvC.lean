/- The walks of evict.Choose and of the reference's Choose. -/
import Derived.Test.YtlpkolmaklnffaaEvN
import Derived.Deep.LoopGhost
namespace Go.Proofs.Ytlpkolmaklnffaa
open Go.RowKit Go.MapKept

/-- The list after one step. -/
def stepL (out : List Int) (o : Option Int) : List Int := match o with
  | none => out
  | some v => out ++ [v]
/-- What the closure of Choose finds: the boxes of its variables, and the list so far. -/
structure CEnv (W : World) (B0 B1 B2 B3 base b : Nat) (Aw : Option Addr) (cw : Nat) (ws : List Int) (Ak : Option Addr) (ck : Nat) (keep out : List Int) (vo : Value) : Prop where
  c0 : W.cell? ⟨B0, 0, none⟩ = some (.pointer (some ⟨b, 0, none⟩))
  c1 : W.cell? ⟨B1, 0, none⟩ = some (.slice Aw ws.length cw)
  c2 : W.cell? ⟨B2, 0, none⟩ = some (.slice Ak keep.length ck)
  c3 : W.heap[B3]? = some (.cells #[vo] 29 (0, 0))
  row : W.ownsRow base 3 1 vo out.length (out.map (Value.int .i64))
theorem CEnv.only {W W' : World} {F : Nat → Prop} {B0 B1 B2 B3 base b : Nat} {Aw : Option Addr} {cw : Nat} {ws : List Int} {Ak : Option Addr} {ck : Nat} {keep out : List Int} {vo : Value} (h : CEnv W B0 B1 B2 B3 base b Aw cw ws Ak ck keep out vo) (k : Only F W W') (hF : ∀ i, F i → False) :
    CEnv W' B0 B1 B2 B3 base b Aw cw ws Ak ck keep out vo :=
  ⟨k.cell h.c0 (fun e => hF _ e), k.cell h.c1 (fun e => hF _ e), k.cell h.c2 (fun e => hF _ e), k.heap h.c3 (fun e => hF _ e), own_only h.row k (fun _ _ e => hF _ e)⟩
theorem grown_ne {v0 v8 : Value} {base B3 n : Nat} (hne : ∀ q, v0.ownBlock = some q → base ≤ q) (hl8 : v8.ownBlock = v0.ownBlock ∨ v8.ownBlock = some n) (hn : base ≤ n) (hB : B3 < base) : v8.ownBlock ≠ some B3 := fun hq => by
  rcases hl8 with h | h
  · have := hne B3 (h.symm.trans hq)
    omega
  · rw [h] at hq
    injection hq with hq
    omega
set_option maxRecDepth 100000 in
set_option maxHeartbeats 1000000 in
theorem step_at (B0 B1 B2 B3 base b N : Nat) (E : List (Int × Int)) (F : Nat → Prop) (Aw : Option Addr) (cw : Nat) (ws : List Int) (Ak : Option Addr) (ck : Nat) (keep : List Int) (out : List Int) (vo : Value) (W : World) (hG : IsGraph W F b N E) (hw : SlI W Aw ws) (hk : SlI W Ak keep) (hC : CEnv W B0 B1 B2 B3 base b Aw cw ws Ak ck keep out vo)
    (hb : B0 < B3 ∧ B1 < B3 ∧ B2 < B3 ∧ B3 < base ∧ base ≤ W.heap.size) (hwl : ws.length ≤ 9223372036854775807) (hol : out.length ≤ 1048576) (hkl : keep.length ≤ 9223372036854775807) (hfew : E.length ≤ 1048576) (xs : List Int) (hx : IsCyc E out xs) (o : Option Int) (ho : best (wgt ws) (kept xs keep) = o) :
    Calls Try.prog 78 #[.pointer (some ⟨B0, 0, none⟩), .pointer (some ⟨B1, 0, none⟩), .pointer (some ⟨B3, 0, none⟩), .pointer (some ⟨B2, 0, none⟩)] W fun e w' =>
      e = .returned (.tuple #[.bool o.isSome, .bool (decide (0 < xs.length))]) ∧
      Only (fun i => i = B3 ∨ base ≤ i) W w' ∧ ∃ vo', CEnv w' B0 B1 B2 B3 base b Aw cw ws Ak ck keep (stepL out o) vo' := by
  obtain ⟨Ao, co, rfl, hio⟩ := own_form hC.row
  have hc := next_at b N E F Aw cw ws Ao co out Ak ck keep W hG hw hio hk hwl (by omega) hkl hfew xs hx o ho _ rfl
  clear ho hG hw hk hio hx
  have HC := hid hc
  have HE := hid hC
  obtain ⟨i0, hi0, hz0, hz1, hz2⟩ := info_parts info_int
  have HI := hid (And.intro hi0 (And.intro hz0 (And.intro hz1 hz2)))
  have k0 := hC.c0
  have k1 := hC.c1
  have k2 := hC.c2
  have k3 := cell_of_one hC.c3
  clear hc hC hi0 hz0 hz1 hz2
  generalize decide (0 < xs.length) = cy at *
  go_enter Try.func78, Try.ntmps78
  cases o with
  | none =>
    go_wp2_with (go_at_call 79; have cX := HC.out; with_reducible refine cX.mono ?_; clear cX; rintro e w1 ⟨rfl, hg1⟩)
    go_ret2
    exact ⟨rfl, Grew.to hg1, _, HE.out.only hg1 (fun _ h => h)⟩
  | some v =>
    go_wp2_with (first
      | (go_at_call 79; have cX := HC.out; with_reducible refine cX.mono ?_; clear cX; rintro e w1 ⟨rfl, hg1⟩; have k31 := hg1.cell k3 (fun h => h); have hs1 := hg1.size; have H1 := hid hg1; clear hg1)
      | (at_builtin; go_loud (refine wpList_append_own_at _ rfl (.tmp 19) (.tmp 21) 29 rfl base 3 i0 _ 1 8 Try.underlying29 HI.out.1 HI.out.2.1 HI.out.2.2.1 HI.out.2.2.2 rfl (by omega) _ out.length (out.map (Value.int .i64)) rfl (own_only HE.out.row (Grew.trans H1.out (Only.alloc (F := fun _ => False) _ _)) (fun _ _ h => h)) _ 1 1 [.int .i64 v] rfl rfl (new_one _ _ _) (by simp [Value.oneCell']) (by unfold maxLen; omega) (by omega) (by first | omega | (simp; omega)) ?_; intro v8 w8 hown8 hgrow8 _ hl8; have hlt3 : B3 < W.heap.size := (by omega); have hne : ∀ q, (Value.slice Ao out.length co).ownBlock = some q → base ≤ q := fun q h => (World.ownsRow.lt HE.out.row q h).1; have k8 : Only (fun i => base ≤ i) (w1.alloc (.cells #[.int .i64 v] 3)) w8 := Only.of_grownBy hgrow8 (fun i e => .inl (hne i e)); have hO8 : Only (fun i => base ≤ i) W w8 := ((Grew.to H1.out).trans (Only.alloc (F := fun i => base ≤ i) _ _) (fun _ _ h => h)).trans k8 (fun _ _ h => h); have h3 : w8.heap[B3]? = some (.cells #[.slice Ao out.length co] 29 (0, 0)) := hO8.heap HE.out.c3 (by omega); have hq8 : v8.ownBlock ≠ some B3 := grown_ne hne hl8 (by first | omega | (simp; omega)) (by omega); have f8 := free_of_one h3; have e8 := cell_of_one h3; have hown : w8.ownsRow base 3 1 v8 (out.length + 1) ((out ++ [v]).map (Value.int .i64)) := (by simpa using hown8); obtain ⟨A8, c8, e8v, _⟩ := own_form hown; obtain rfl : v8 = .slice A8 (out.length + 1) c8 := (by rw [e8v]; simp); have H8 := hid (And.intro hown (And.intro hO8 (And.intro h3 hq8))); clear hown hown8 hgrow8 hl8 k8 hO8 h3 hq8 hne e8v)))
    go_ret2
    refine ⟨rfl, ((H8.out.2.1.mono (fun i _ h => .inr h)).trans (Only.setCell (F := fun i => i = B3 ∨ base ≤ i) w8 (.inl rfl) _) (fun _ _ h => h)), .slice A8 (out.length + 1) c8, ?_⟩
    have hs := Only.setCell (F := fun i => i = B3) w8 (p := ⟨B3, 0, none⟩) rfl (.slice A8 (out.length + 1) c8)
    exact ⟨hs.cell (H8.out.2.1.cell HE.out.c0 (by show ¬ base ≤ B0; omega)) (by show ¬ B0 = B3; omega), hs.cell (H8.out.2.1.cell HE.out.c1 (by show ¬ base ≤ B1; omega)) (by show ¬ B1 = B3; omega), hs.cell (H8.out.2.1.cell HE.out.c2 (by show ¬ base ≤ B2; omega)) (by show ¬ B2 = B3; omega), one_setCell H8.out.2.2.1, by simpa [stepL] using ownsRow_setCell_other H8.out.1 H8.out.2.2.2 (.slice A8 (out.length + 1) c8)⟩
theorem isChoose_of {E : List (Int × Int)} {ws keep out xs : List Int} (h : Chosen E ws keep out) (hx : IsCyc E out xs) (hb : best (wgt ws) (kept xs keep) = none) : IsChoose E ws keep out xs := ⟨h, hx, hb⟩
theorem stepL_chosen {E : List (Int × Int)} {ws keep out xs : List Int} (h : Chosen E ws keep out) (hx : IsCyc E out xs) : Chosen E ws keep (stepL out (best (wgt ws) (kept xs keep))) := by
  cases hb : best (wgt ws) (kept xs keep) with
  | none => exact h
  | some v => exact .snoc h hx hb
/-- What Choose hands back. -/
def ChooseRes (w : World) (o : List Int) (r : Bool) (e : Ending) (w' : World) : Prop :=
  ∃ A' c', e = .returned (.tuple #[.slice A' (ordRes r o).length c', .bool r]) ∧ SlI w' A' (ordRes r o) ∧ (ordRes r o).length ≤ c' ∧ (∀ k off, A' = some ⟨k, off, none⟩ → w.heap.size ≤ k) ∧ Grew w w'
theorem own_cap {w : World} {base : Nat} {v : Value} {m : Nat} {xs : List Int} (h : w.ownsRow base 3 1 v m (xs.map (Value.int .i64))) : ∃ A c, v = .slice A xs.length c ∧ SlI w A xs ∧ xs.length ≤ c ∧ ∀ k off, A = some ⟨k, off, none⟩ → base ≤ k := by
  have hm : m = xs.length := by simpa using h.1.symm
  subst hm
  have h' := h
  rcases h.2 with ⟨rfl, hz⟩ | ⟨g, cap, cur, rfl, hb, hg, h1, h2, h3, h4⟩
  · obtain rfl : xs = [] := List.eq_nil_of_length_eq_zero hz
    exact ⟨none, 0, rfl, SlI.nil, Nat.le_refl _, fun _ _ h => by cases h⟩
  · exact ⟨_, _, rfl, SlI.of_own h', h1, fun k off e => by cases e; exact hb⟩
theorem boxes (w : World) (b : Nat) (Aw : Option Addr) (cw : Nat) (ws : List Int) (Ak : Option Addr) (ck : Nat) (keep : List Int) :
    Grew w ((((w.alloc (.cells #[.pointer (some ⟨b, 0, none⟩)] 23)).alloc (.cells #[.slice Aw ws.length cw] 29)).alloc (.cells #[.slice Ak keep.length ck] 29)).alloc (.cells #[.slice none 0 0] 29)) ∧ CEnv ((((w.alloc (.cells #[.pointer (some ⟨b, 0, none⟩)] 23)).alloc (.cells #[.slice Aw ws.length cw] 29)).alloc (.cells #[.slice Ak keep.length ck] 29)).alloc (.cells #[.slice none 0 0] 29)) w.heap.size (w.heap.size + 1) (w.heap.size + 2) (w.heap.size + 3) (w.heap.size + 4) b Aw cw ws Ak ck keep [] (.slice none 0 0) ∧ ((((w.alloc (.cells #[.pointer (some ⟨b, 0, none⟩)] 23)).alloc (.cells #[.slice Aw ws.length cw] 29)).alloc (.cells #[.slice Ak keep.length ck] 29)).alloc (.cells #[.slice none 0 0] 29)).heap.size = w.heap.size + 4 := by
  have g1 := Only.alloc (F := fun _ => False) w (.cells #[.pointer (some ⟨b, 0, none⟩)] 23)
  have h1 := heap_alloc_new w (.cells #[.pointer (some ⟨b, 0, none⟩)] 23)
  generalize hw1 : w.alloc (.cells #[.pointer (some ⟨b, 0, none⟩)] 23) = w1 at *
  have s1 : w1.heap.size = w.heap.size + 1 := by rw [← hw1]; simp
  have g2 := Only.alloc (F := fun _ => False) w1 (.cells #[.slice Aw ws.length cw] 29)
  have h2 := heap_alloc_new w1 (.cells #[.slice Aw ws.length cw] 29)
  generalize hw2 : w1.alloc (.cells #[.slice Aw ws.length cw] 29) = w2 at *
  have s2 : w2.heap.size = w.heap.size + 2 := by rw [← hw2]; simp; omega
  have g3 := Only.alloc (F := fun _ => False) w2 (.cells #[.slice Ak keep.length ck] 29)
  have h3 := heap_alloc_new w2 (.cells #[.slice Ak keep.length ck] 29)
  generalize hw3 : w2.alloc (.cells #[.slice Ak keep.length ck] 29) = w3 at *
  have s3 : w3.heap.size = w.heap.size + 3 := by rw [← hw3]; simp; omega
  have g4 := Only.alloc (F := fun _ => False) w3 (.cells #[.slice none 0 0] 29)
  have h4 := heap_alloc_new w3 (.cells #[.slice none 0 0] 29)
  generalize hw4 : w3.alloc (.cells #[.slice none 0 0] 29) = w4 at *
  have s4 : w4.heap.size = w.heap.size + 4 := by rw [← hw4]; simp; omega
  rw [s1] at h2
  rw [s2] at h3
  rw [s3] at h4
  refine ⟨Grew.trans g1 (Grew.trans g2 (Grew.trans g3 g4)), ⟨?_, ?_, ?_, h4, ⟨by simp, .inl ⟨rfl, by simp⟩⟩⟩, s4⟩
  · exact (Grew.trans g2 (Grew.trans g3 g4)).cell (cell_of_one h1) (fun h => h)
  · exact (Grew.trans g3 g4).cell (cell_of_one h2) (fun h => h)
  · exact g4.cell (cell_of_one h3) (fun h => h)
set_option maxRecDepth 100000 in
set_option maxHeartbeats 2000000 in
theorem choose_at (b N : Nat) (E : List (Int × Int)) (F : Nat → Prop) (Aw : Option Addr) (cw : Nat) (ws : List Int) (Ak : Option Addr) (ck : Nat) (keep : List Int) (w : World) (hG : IsGraph w F b N E) (hw : SlI w Aw ws) (hk : SlI w Ak keep)
    (hwl : ws.length ≤ 9223372036854775807) (hkl : keep.length ≤ 9223372036854775807) (hfew : E.length ≤ 1048576) (o xs : List Int) (hx : IsChoose E ws keep o xs) (r : Bool) (hr : decide (xs = []) = r) :
    Calls Try.prog 52 #[.pointer (some ⟨b, 0, none⟩), .slice Aw ws.length cw, .slice Ak keep.length ck] w (ChooseRes w o r) := by
  have hN := hG.small.2
  have HP := hid (And.intro hG (And.intro hw (And.intro hk (And.intro hx hr))))
  have HV := hid hG.2.2
  have hmf : ∀ (fn : Fn) (first cap : Array Value) (w : World), (Instr.makeFunc fn first cap).run Try.prog w = .ok (.func fn first cap) w := fun _ _ _ _ => rfl
  have HB := hid (boxes w b Aw cw ws Ak ck keep)
  clear hG hw hk hx hr
  go_enter Try.func52, Try.ntmps52
  go_wp2_with fail
  go_at_call 78
  clear hmf
  generalize (((w.alloc (.cells #[.pointer (some ⟨b, 0, none⟩)] 23)).alloc (.cells #[.slice Aw ws.length cw] 29)).alloc (.cells #[.slice Ak keep.length ck] 29)).alloc (.cells #[.slice none 0 0] 29) = W0 at *
  have STEP : Hid (∀ (W : World) (out : List Int) (vo : Value), Only (fun i => i = w.heap.size + 3 ∨ w.heap.size + 4 ≤ i) W0 W → CEnv W w.heap.size (w.heap.size + 1) (w.heap.size + 2) (w.heap.size + 3) (w.heap.size + 4) b Aw cw ws Ak ck keep out vo → Chosen E ws keep out →
      ∃ ys q cy, IsCyc E out ys ∧ best (wgt ws) (kept ys keep) = q ∧ decide (0 < ys.length) = cy ∧ Calls Try.prog 78 #[.pointer (some ⟨w.heap.size, 0, none⟩), .pointer (some ⟨w.heap.size + 1, 0, none⟩), .pointer (some ⟨w.heap.size + 3, 0, none⟩), .pointer (some ⟨w.heap.size + 2, 0, none⟩)] W fun e w' =>
        e = .returned (.tuple #[.bool q.isSome, .bool cy]) ∧ Only (fun i => i = w.heap.size + 3 ∨ w.heap.size + 4 ≤ i) W0 w' ∧ ∃ vo', CEnv w' w.heap.size (w.heap.size + 1) (w.heap.size + 2) (w.heap.size + 3) (w.heap.size + 4) b Aw cw ws Ak ck keep (stepL out q) vo') := hid (fun W out vo hO hC hch => by
    obtain ⟨ys, hy⟩ := cyc_ex HV.out out
    have hsz := HB.out.2.2
    have hs := hO.size
    have hO2 : Only (fun i => w.heap.size + 3 ≤ i) w W := (Grew.to HB.out.1).trans hO (fun i hi h => by rcases h with h | h <;> omega)
    have hg : Grew w W := hO2.mono (fun i hi h => by omega)
    refine ⟨ys, _, _, hy, rfl, rfl, ?_⟩
    refine (step_at w.heap.size (w.heap.size + 1) (w.heap.size + 2) (w.heap.size + 3) (w.heap.size + 4) b N E F Aw cw ws Ak ck keep out vo W (HP.out.1.grew hg) (HP.out.2.1.grew hg) (HP.out.2.2.1.grew hg) hC ⟨by omega, by omega, by omega, by omega, by omega⟩ hwl (by have := hch.length HV.out; omega) hkl hfew ys hy _ rfl).mono ?_
    rintro e w' ⟨rfl, h1, h2⟩
    exact ⟨rfl, hO.trans h1 (fun _ _ h => h), h2⟩)
  obtain ⟨ys, q, cy, hy, hq, hcy, cS⟩ := STEP.out W0 [] _ (Only.refl _ _) HB.out.2.1 .nil
  refine cS.mono ?_
  clear cS
  rintro e w1 ⟨rfl, hO1, vo1, hC1⟩
  have H1 := hid (And.intro hO1 (And.intro hC1 (And.intro hy (And.intro hq (And.intro hcy (show Chosen E ws keep [] from .nil))))))
  clear hO1 hC1 hy hq hcy
  go_wp2_with fail
  go_loopg [10, 11] (2 * N + 2) (fun gk ov cv wr => ∃ (out out0 ys : List Int) (q : Option Int) (cy : Bool) (vo : Value), ov = .bool q.isSome ∧ cv = .bool cy ∧ Hid (Only (fun i => i = w.heap.size + 3 ∨ w.heap.size + 4 ≤ i) W0 wr ∧ CEnv wr w.heap.size (w.heap.size + 1) (w.heap.size + 2) (w.heap.size + 3) (w.heap.size + 4) b Aw cw ws Ak ck keep out vo ∧ out = stepL out0 q ∧ Chosen E ws keep out0 ∧ IsCyc E out0 ys ∧ best (wgt ws) (kept ys keep) = q ∧ decide (0 < ys.length) = cy) ∧ 2 * (N - out.length) + (if q.isSome then 1 else 0) < gk)
  case atStart => exact ⟨_, [], ys, q, cy, vo1, rfl, rfl, hid ⟨H1.out.1, H1.out.2.1, rfl, .nil, H1.out.2.2.1, H1.out.2.2.2.1, H1.out.2.2.2.2.1⟩, by split <;> omega⟩
  case round =>
    obtain ⟨out, out0, ys2, q2, cy2, vo, rfl, rfl, HR, hgk⟩ := hrel
    have hch : Chosen E ws keep out := by rw [HR.out.2.2.1, ← HR.out.2.2.2.2.2.1]; exact stepL_chosen HR.out.2.2.2.1 HR.out.2.2.2.2.1
    cases q2 with
    | some v =>
      obtain ⟨ys3, q3, cy3, hy3, hq3, hcy3, cS⟩ := STEP.out wr out vo HR.out.1 HR.out.2.1 hch
      have HS := hid cS
      have H3 := hid (And.intro hy3 (And.intro hq3 hcy3))
      have hl3 : (stepL out q3).length ≤ N := (by rw [← hq3]; exact stepL_chosen hch hy3 : Chosen E ws keep (stepL out q3)).length HV.out
      have HCH := hid hch
      clear cS hy3 hq3 hcy3 hch
      simp only [Option.isSome_some, if_true] at hgk
      go_wp2_with (go_at_call 78; have cX := HS.out; with_reducible refine cX.mono ?_; clear cX; rintro e w3 ⟨rfl, hO3, vo3, hC3⟩)
      have H4 := hid (And.intro hO3 hC3)
      clear hO3 hC3
      cases q3 with
      | none =>
        go_roundg (2 * (N - out.length) + 1)
        case measure => omega
        case rel => exact ⟨out, out, ys3, none, cy3, vo3, rfl, rfl, hid ⟨H4.out.1, H4.out.2, rfl, HCH.out, H3.out⟩, by simp⟩
      | some v3 =>
        simp only [stepL, List.length_append, List.length_singleton] at hl3
        go_roundg (2 * (N - out.length))
        case measure => omega
        case rel => exact ⟨out ++ [v3], out, ys3, some v3, cy3, vo3, rfl, rfl, hid ⟨H4.out.1, H4.out.2, rfl, HCH.out, H3.out⟩, by simp; omega⟩
    | none =>
      obtain ⟨h1, h2, h3, h4, h5, h6, h7⟩ := HR.out
      obtain rfl : out = out0 := h3
      obtain ⟨rfl, rfl⟩ := HP.out.2.2.2.1.unique ⟨h4, h5, h6⟩
      have hcr : cy2 = !r := by
        rw [← h7, ← HP.out.2.2.2.2]
        cases xs with
        | nil => rfl
        | cons x t => simp
      have hO2 : Only (fun i => w.heap.size + 3 ≤ i) w wr := (Grew.to HB.out.1).trans h1 (fun i hi h => by rcases h with h | h <;> omega)
      have hg : Grew w wr := hO2.mono (fun i hi h => by omega)
      have kc := cell_of_one h2.c3
      obtain ⟨A, c, rfl, hi, hc, hloc⟩ := own_cap h2.row
      have HF := hid (And.intro hi (And.intro hc (And.intro (fun k off e => Nat.le_trans (by omega) (hloc k off e) : ∀ k off, A = some ⟨k, off, none⟩ → w.heap.size ≤ k) hg)))
      subst hcr
      clear hch h1 h2 h4 h5 h6 h7 hO2 hg hi hc hloc HR
      cases r
      · go_wp2
        go_ret2
        exact ⟨none, 0, rfl, SlI.nil, Nat.le_refl _, (fun _ _ h => by cases h), HF.out.2.2.2⟩
      · go_wp2
        go_ret2
        exact ⟨A, c, rfl, HF.out.1, HF.out.2.1, HF.out.2.2.1, HF.out.2.2.2⟩
end Go.Proofs.Ytlpkolmaklnffaa
