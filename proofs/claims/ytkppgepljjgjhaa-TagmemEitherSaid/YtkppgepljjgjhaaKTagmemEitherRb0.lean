/- The document's memory: LoadCap. No condition. -/
import Derived.Test.YtkppgepljjgjhaaKTagmemEitherRa9
namespace Go.Proofs.Ytkppgepljjgjhaa.P
open Go.RowKit Go.Proofs.YtkppgepljjgjhaaW.PrintWords Go.Proofs.YtkppgepljjgjhaaW.PrintLast Go.Proofs.YtkppgepljjgjhaaW.PrintMore
set_option linter.unusedVariables false
set_option linter.unusedSimpArgs false
def Rm.loadCap (r : Rm) (a : Int) : Int × Int × Int × Int × Int × Bool × Int := if r.spot a = 0 then (fun l : List Int => (leval (l.take 8), leval ((l.drop 8).take 8), leval ((l.drop 16).take 8), rd l 24, if 63 < rd l 25 then -1 else rd l 25, r.marks.contains a, 0)) (r.many a 32) else (0, 0, 0, 0, 0, false, r.spot a)
theorem row32 {w : World} {base : Nat} {v : Value} {l : List Int} (h : Kd.R (Kd.int .u8) 5 w base (fun _ => True) v l) (hl : l.length = 32) : ∃ ad c, v = .slice (some ad) 32 c ∧ Kd.C (Kd.int .u8) w (some ad) 32 l ∧ 32 ≤ c ∧ base ≤ ad.block := by
  obtain ⟨A, c, rfl, hc, hC⟩ := Kd.R_reads h
  rw [hl] at hC hc ⊢
  obtain ⟨ad, rfl, -⟩ := Kd.at_int hC 0 (by omega) (by omega)
  obtain ⟨inner, ho⟩ := Kd.R_own h
  exact ⟨ad, c, rfl, hC, hc, own_base ho ad.block rfl⟩
theorem cells32 {w : World} {ad : Addr} {l : List Int} (h : Kd.C (Kd.int .u8) w (some ad) 32 l) : w.cell? ⟨ad.block, ad.off + 24, none⟩ = some (.int .u8 (rd l 24)) ∧ w.cell? ⟨ad.block, ad.off + 25, none⟩ = some (.int .u8 (rd l 25)) := by
  obtain ⟨a1, e1, h1⟩ := Kd.at_int h 24 (by omega) (by omega)
  obtain ⟨a2, e2, h2⟩ := Kd.at_int h 25 (by omega) (by omega)
  cases e1
  cases e2
  exact ⟨h1, h2⟩
theorem row_cut {w : World} {ad : Addr} {l : List Int} (h : Kd.C (Kd.int .u8) w (some ad) 32 l) : Kd.C (Kd.int .u8) w (some ad) 8 (l.take 8) ∧ Kd.C (Kd.int .u8) w (some ⟨ad.block, ad.off + 8, none⟩) 8 ((l.drop 8).take 8) ∧ Kd.C (Kd.int .u8) w (some ⟨ad.block, ad.off + 16, none⟩) 8 ((l.drop 16).take 8) := by
  have hl : l.length = 32 := h.1
  have h0 : Kd.C (Kd.int .u8) w (some ad) l.length l := by rw [hl]; exact h
  have t8 : ∀ (A : Option Addr) (m : List Int), Kd.C (Kd.int .u8) w A m.length m → 8 ≤ m.length → Kd.C (Kd.int .u8) w A 8 (m.take 8) := fun A m hm h8 => by
    have := Kd.C_take (m := 8) hm h8
    rwa [show (m.take 8).length = 8 by rw [List.length_take]; omega] at this
  have d8 : ∀ k : Nat, k ≤ 24 → Kd.C (Kd.int .u8) w (some (ad.add k)) (l.drop k).length (l.drop k) := fun k hk => by
    have := Kd.C_drop (m := k) (c := 1000) h0 (by omega) (by omega)
    rw [if_neg (by omega)] at this
    have e : k * (Kd.int .u8).sz = k := by show k * 1 = k; omega
    rw [e] at this
    exact this
  exact ⟨t8 _ _ h0 (by omega), t8 _ _ (d8 8 (by omega)) (by rw [List.length_drop]; omega), t8 _ _ (d8 16 (by omega)) (by rw [List.length_drop]; omega)⟩
def Held32 (ad : Addr) (l : List Int) (W : World) : Prop := W.cell? ⟨ad.block, ad.off + 24, none⟩ = some (.int .u8 (rd l 24))
theorem held_one {ad : Addr} {l : List Int} {W : World} {g : Nat} (hne : ad.block ≠ g) (h : Held32 ad l W) (i : Nat) (v : Value) : Held32 ad l (W.setCell ⟨g, i, none⟩ v) :=
  cell_kept h (Upd.setCell W (p := ⟨g, i, none⟩) (S := (· = g)) rfl v).kept hne
theorem held_six {ad : Addr} {l : List Int} {W : World} {g : Nat} (hne : ad.block ≠ g) (h : Held32 ad l W) (v0 v1 v2 v3 v4 v5 : Value) : Held32 ad l ((((((W.setCell ⟨g, 0, none⟩ v0).setCell ⟨g, 1, none⟩ v1).setCell ⟨g, 2, none⟩ v2).setCell ⟨g, 3, none⟩ v3).setCell ⟨g, 4, none⟩ v4).setCell ⟨g, 5, none⟩ v5) :=
  held_one hne (held_one hne (held_one hne (held_one hne (held_one hne (held_one hne h 0 v0) 1 v1) 2 v2) 3 v3) 4 v4) 5 v5
section
variable {w : World} {g : Nat} {K KA : Nat → Prop} {r : Rm}
set_option maxHeartbeats 8000000 in
set_option maxRecDepth 100000 in
theorem refLoadCap_calls (h : RefL w g K r) (ho : r.Ok) (hby : r.By) (a : Int) (h0 : 0 ≤ a) (h1 : a ≤ 18446744073709551615) :
    Calls Try.prog 45 #[.pointer (some ⟨g, 0, none⟩), .int .u64 a] w fun e w' => e = .returned (.tuple #[.agg #[.int .u64 (r.loadCap a).1, .int .u64 (r.loadCap a).2.1, .int .u64 (r.loadCap a).2.2.1, .int .i64 (r.loadCap a).2.2.2.1, .int .i64 (r.loadCap a).2.2.2.2.1, .bool (r.loadCap a).2.2.2.2.2.1], .int .i64 (r.loadCap a).2.2.2.2.2.2]) ∧ Below w.heap.size w w' := by
  have HB0 := Aside0.mk (Below.refl w.heap.size w)
  have hu := Try.underlying41
  have SP := Aside0.mk (fun W (hb : Below w.heap.size w W) => spot_calls (h.below hb) ho a h0 h1)
  unfold Rm.loadCap
  by_cases hz : r.spot a = 0
  case neg =>
    rw [if_neg hz]
    have d : (r.spot a != 0) = true := bne_iff_ne.2 hz
    generalize r.spot a = x at SP d ⊢
    clear hz
    go_enter Try.func45, Try.ntmps45
    go_wp2_with (first | ((with_reducible refine gate_dst (N := 4) rfl ?_); refine box_event ?hg (N := 4) ?hd (cs := #[.int .u64 0, .int .u64 0, .int .u64 0, .int .i64 0, .int .i64 0, .bool false]) (t := 41) ?hr ?_; (case hd => rfl); (case hg => rfl); (case hr => first | (go_simp; done) | (go_simp; rfl)); intro g4 hgb W1 hbox hb; have HB1 := Aside0.mk hb; have BK1 := Aside0.mk hbox; have G4 := Aside0.mk (show w.heap.size ≤ g4 by rw [hgb]; exact Nat.le_refl _); clear hb hbox hgb HB0) | (go_at_call 56; with_reducible refine (SP.out _ HB1.out).mono ?_; rintro e W2 ⟨rfl, hb⟩; have HB2 := Aside0.mk (below_step HB1.out hb); have BK2 := Aside0.mk (blk_below BK1.out hb); have e0 : W2.cell? ⟨g4, 0, none⟩ = some (.int .u64 0) := (blk_cell BK2.out 0).trans rfl; have u0f := blk_frozen BK2.out 0; have e1 : W2.cell? ⟨g4, 1, none⟩ = some (.int .u64 0) := (blk_cell BK2.out 1).trans rfl; have u1f := blk_frozen BK2.out 1; have e2 : W2.cell? ⟨g4, 2, none⟩ = some (.int .u64 0) := (blk_cell BK2.out 2).trans rfl; have u2f := blk_frozen BK2.out 2; have e3 : W2.cell? ⟨g4, 3, none⟩ = some (.int .i64 0) := (blk_cell BK2.out 3).trans rfl; have u3f := blk_frozen BK2.out 3; have e4 : W2.cell? ⟨g4, 4, none⟩ = some (.int .i64 0) := (blk_cell BK2.out 4).trans rfl; have u4f := blk_frozen BK2.out 4; have e5 : W2.cell? ⟨g4, 5, none⟩ = some (.bool false) := (blk_cell BK2.out 5).trans rfl; have u5f := blk_frozen BK2.out 5; clear hb HB1 BK1) | fail)
    refine bodyPost_ret (results_ct rfl _ _ g4 41 #[.int .u64 0, .int .u64 0, .int .u64 0, .int .i64 0, .int .i64 0, .bool false] (0, 0) _ rfl (blk_put (blk_put (blk_put (blk_put (blk_put (blk_put BK2.out 0 _ rfl) 1 _ rfl) 2 _ rfl) 3 _ rfl) 4 _ rfl) 5 _ rfl) Try.underlying41 rfl (by kernel_rfl)) rfl ?_
    exact ⟨rfl, (below_set (below_set (below_set (below_set (below_set (below_set HB2.out G4.out) G4.out) G4.out) G4.out) G4.out) G4.out)⟩
  case pos =>
    rw [if_pos hz]
    have ha : a % 32 = 0 := by
      unfold Rm.spot at hz
      by_cases c : a % 32 ≠ 0
      · rw [if_pos c] at hz; cases hz
      · omega
    simp only [hz] at SP
    have MA : Aside0 (∀ W, Below w.heap.size w W → Calls Try.prog 59 #[.pointer (some ⟨g, 0, none⟩), .int .u64 a, .int .i64 32] W fun e w' => ∃ v, e = .returned v ∧ Kd.R (Kd.int .u8) 5 w' W.heap.size (fun _ => True) v (r.many a 32) ∧ Below W.heap.size W w') := ⟨fun W hb => many_calls (h.below hb) ho a 32 h0 (by omega) (by omega)⟩
    have HL := Aside0.mk (many_length r a 32)
    have hrg := many_range hby a 32
    have HS := Aside0.mk (fun W (A : Option Addr) (c : Nat) (hC : Kd.C (Kd.int .u64) W A r.marks.length r.marks) (hl : r.marks.length ≤ c) => has_calls A c r.marks a hC hl (by have := ho.k; omega))
    generalize r.marks.contains a = b at HS ⊢
    generalize r.many a 32 = l at MA HL hrg ⊢
    simp only
    clear hz ha
    have rg : ∀ i : Nat, i < 32 → 0 ≤ rd l (i : Int) ∧ rd l (i : Int) < 256 := fun i hi => hrg _ (rd_mem (by rw [HL.out]; exact hi))
    have r24 : 0 ≤ rd l 24 ∧ rd l 24 < 256 := rg 24 (by omega)
    have r25 : 0 ≤ rd l 25 ∧ rd l 25 < 256 := rg 25 (by omega)
    have OF : ∀ l8 : List Int, l8.length = 8 → (∀ x ∈ l8, 0 ≤ x ∧ x < 256) → Aside0 (∀ (W : World) (A : Option Addr) (c : Nat), Kd.C (Kd.int .u8) W A 8 l8 → 8 ≤ c → Calls Try.prog 58 #[.slice A 8 c] W fun e w' => e = .returned (.int .u64 (leval l8)) ∧ Drawn0 W w') := fun l8 h8 hb8 => ⟨fun W A c hC hc => by
      have := curtilageref01_Of.calls 20 A c l8 (leval l8) W (by rw [h8]; exact hC) (by omega) (refof_val l8 (by omega) hb8)
      rwa [h8] at this⟩
    have OF1 := OF (l.take 8) (by rw [List.length_take, HL.out]; rfl) (fun x hx => hrg x (List.mem_of_mem_take hx))
    have OF2 := OF ((l.drop 8).take 8) (by rw [List.length_take, List.length_drop, HL.out]; rfl) (fun x hx => hrg x (List.mem_of_mem_drop (List.mem_of_mem_take hx)))
    have OF3 := OF ((l.drop 16).take 8) (by rw [List.length_take, List.length_drop, HL.out]; rfl) (fun x hx => hrg x (List.mem_of_mem_drop (List.mem_of_mem_take hx)))
    clear OF rg hrg
    have V24 : wrap64 (rd l 24) = rd l 24 := i64w (by have := r24.1; omega) (by have := r24.2; omega)
    have V25 : wrap64 (rd l 25) = rd l 25 := i64w (by have := r25.1; omega) (by have := r25.2; omega)
    clear r24 r25
    by_cases hi : 63 < rd l 25
    · rw [if_pos hi]
      have d4 : decide (63 < rd l 25) = true := decide_eq_true hi
      replace hi := Aside0.mk hi
      go_enter Try.func45, Try.ntmps45
      go_wp2_with (first | ((with_reducible refine gate_dst (N := 4) rfl ?_); refine box_event ?hg (N := 4) ?hd (cs := #[.int .u64 0, .int .u64 0, .int .u64 0, .int .i64 0, .int .i64 0, .bool false]) (t := 41) ?hr ?_; (case hd => rfl); (case hg => rfl); (case hr => first | (go_simp; done) | (go_simp; rfl)); intro g4 hgb W1 hbox hb; have HB1 := Aside0.mk hb; have BK1 := Aside0.mk hbox; have G4 := Aside0.mk (show w.heap.size ≤ g4 by rw [hgb]; exact Nat.le_refl _); clear hb hbox hgb HB0) | (go_at_call 56; with_reducible refine (SP.out _ HB1.out).mono ?_; rintro e W2 ⟨rfl, hb⟩; have HB2 := Aside0.mk (below_step HB1.out hb); have BK2 := Aside0.mk (blk_below BK1.out hb); clear hb HB1 BK1) | (go_at_call 59; with_reducible refine (MA.out _ HB2.out).mono ?_; rintro e W3 ⟨v, rfl, hR, hb⟩; obtain ⟨ad, c, rfl, hC, hcc, hba⟩ := row32 hR HL.out; have NEA := Aside0.mk (show ad.block ≠ g4 from by have := blk_lt BK2.out; omega); clear hba; have HC3 := Aside0.mk hC; have HB3 := Aside0.mk (below_step HB2.out hb); have BK3 := Aside0.mk (blk_below BK2.out hb); obtain ⟨x24, x25⟩ := cells32 HC3.out; clear hR hb hC HB2 BK2; obtain ⟨A0x, c0x, A1x, c1x, A2x, c2x, ⟨z0, z1, z2, z3⟩, -, ⟨l0, l1, l2⟩, ⟨C0, C1, C2⟩⟩ := (h.below HB3.out).cells_; have HSX := Aside0.mk (HS.out _ A2x c2x C2 l2); clear z0 z1 z3 l0 l1 l2 C0 C1 C2) | (go_at_call 50; with_reducible refine HSX.out.mono ?_; rintro e W4 ⟨rfl, hb⟩; have HC4 := Aside0.mk (Kd.C_below HC3.out hb); have HB4 := Aside0.mk (below_step HB3.out hb); have BK4 := Aside0.mk (blk_below BK3.out hb); clear hb z2) | fail)
      have hc8 : (8 : Int) ≤ (c : Int) := by omega
      have hc16 : (16 : Int) ≤ (c : Int) := by omega
      have hc24 : (24 : Int) ≤ (c : Int) := by omega
      have hn8 : ¬ c = 8 := by omega
      have hn16 : ¬ c = 16 := by omega
      refine start_ (n := 18) (S := fun W => Held32 ad l W) (ds := []) #[false, false, false, false, false, false, false, false, false, false, false, false, false, false, false, false, false, false] (by kernel_rfl) rfl rfl (cells32 (Kd.C_drew HC4.out)).1 (fun hHeld => ?_)
      have HC5 := Aside0.mk (Kd.C_drew HC4.out)
      have HB5 := Aside0.mk (below_drew HB4.out)
      have BK5 := Aside0.mk (show W4.drew.heap[g4]? = _ from BK4.out)
      generalize W4.drew = W5 at HC5 HB5 BK5 hHeld ⊢
      clear HC4 HB4 BK4 HC3 HB3 BK3
      refine pure_ (i := 0) (N := some 32) (v := ?_) (a' := ?_) #[true, false, false, false, false, false, false, false, false, false, false, false, false, false, false, false, false, false] rfl rfl (by kernel_rfl) (fun _ _ _ h => h) (Or.inl ⟨by rfl, ?_⟩) ?_ ?_
      rotate_left
      · intro w'
        go_simp
        with_reducible rfl
      rotate_left
      · simp only [Act.put, List.setIfInBounds_toArray, List.set_cons_zero, List.set_cons_succ, i64_w, i32_w]
        rfl
      refine pure_ (i := 1) (N := some 33) (v := ?_) (a' := ?_) #[true, true, false, false, false, false, false, false, false, false, false, false, false, false, false, false, false, false] rfl rfl (by kernel_rfl) (fun _ _ _ h => h) (Or.inl ⟨by rfl, ?_⟩) ?_ ?_
      rotate_left
      · intro w'
        go_simp
        with_reducible rfl
      rotate_left
      · simp only [Act.put, List.setIfInBounds_toArray, List.set_cons_zero, List.set_cons_succ, i64_w, i32_w]
        rfl
      refine pure_ (i := 3) (N := some 35) (v := ?_) (a' := ?_) #[true, true, false, true, false, false, false, false, false, false, false, false, false, false, false, false, false, false] rfl rfl (by kernel_rfl) (fun _ _ _ h => h) (Or.inl ⟨by rfl, ?_⟩) ?_ ?_
      rotate_left
      · intro w'
        go_simp
        with_reducible rfl
      rotate_left
      · simp only [Act.put, List.setIfInBounds_toArray, List.set_cons_zero, List.set_cons_succ, i64_w, i32_w]
        rfl
      refine pure_ (i := 4) (N := some 36) (v := ?_) (a' := ?_) #[true, true, false, true, true, false, false, false, false, false, false, false, false, false, false, false, false, false] rfl rfl (by kernel_rfl) (fun _ _ _ h => h) (Or.inl ⟨by rfl, ?_⟩) ?_ ?_
      rotate_left
      · intro w'
        go_simp
        with_reducible rfl
      rotate_left
      · simp only [Act.put, List.setIfInBounds_toArray, List.set_cons_zero, List.set_cons_succ, i64_w, i32_w]
        rfl
      refine pure_ (i := 6) (N := some 38) (v := ?_) (a' := ?_) #[true, true, false, true, true, false, true, false, false, false, false, false, false, false, false, false, false, false] rfl rfl (by kernel_rfl) (fun _ _ _ h => h) (Or.inl ⟨by rfl, ?_⟩) ?_ ?_
      rotate_left
      · intro w'
        go_simp
        with_reducible rfl
      rotate_left
      · simp only [Act.put, List.setIfInBounds_toArray, List.set_cons_zero, List.set_cons_succ, i64_w, i32_w]
        rfl
      refine pure_ (i := 7) (N := some 39) (v := ?_) (a' := ?_) #[true, true, false, true, true, false, true, true, false, false, false, false, false, false, false, false, false, false] rfl rfl (by kernel_rfl) (fun _ _ _ h => h) (Or.inl ⟨by rfl, ?_⟩) ?_ ?_
      rotate_left
      · intro w'
        go_simp
        with_reducible rfl
      rotate_left
      · simp only [Act.put, List.setIfInBounds_toArray, List.set_cons_zero, List.set_cons_succ, i64_w, i32_w]
        rfl
      refine pure_ (i := 9) (N := some 41) (v := ?_) (a' := ?_) #[true, true, false, true, true, false, true, true, false, true, false, false, false, false, false, false, false, false] rfl rfl (by kernel_rfl) (fun _ _ _ h => h) (Or.inl ⟨by rfl, ?_⟩) ?_ ?_
      rotate_left
      · intro w'
        go_simp
        with_reducible rfl
      rotate_left
      · simp only [Act.put, List.setIfInBounds_toArray, List.set_cons_zero, List.set_cons_succ, i64_w, i32_w]
        rfl
      refine pure_ (i := 10) (N := some 42) (v := ?_) (a' := ?_) #[true, true, false, true, true, false, true, true, false, true, true, false, false, false, false, false, false, false] rfl rfl (by kernel_rfl) (fun _ _ _ h => h) (Or.inl ⟨by rfl, ?_⟩) ?_ ?_
      rotate_left
      · intro w'
        go_simp
        with_reducible rfl
      rotate_left
      · simp only [Act.put, List.setIfInBounds_toArray, List.set_cons_zero, List.set_cons_succ, i64_w, i32_w]
        rfl
      refine take_ (i := 11) (N := some 43) (v := ?_) (a' := ?_) #[true, true, false, true, true, false, true, true, false, true, true, true, false, false, false, false, false, false] rfl rfl (by kernel_rfl) (fun _ _ _ h => h) (Or.inl ⟨by rfl, ?_⟩) hHeld ?_ ?_
      rotate_left
      · rintro w' s0
        unfold Held32 at s0
        go_simp
        with_reducible rfl
      rotate_left
      · simp only [Act.put, List.setIfInBounds_toArray, List.set_cons_zero, List.set_cons_succ, i64_w, i32_w]
        rfl
      refine pure_ (i := 12) (N := some 44) (v := ?_) (a' := ?_) #[true, true, false, true, true, false, true, true, false, true, true, true, true, false, false, false, false, false] rfl rfl (by kernel_rfl) (fun _ _ _ h => h) (Or.inl ⟨by rfl, ?_⟩) ?_ ?_
      rotate_left
      · intro w'
        go_simp
        with_reducible rfl
      rotate_left
      · simp only [Act.put, List.setIfInBounds_toArray, List.set_cons_zero, List.set_cons_succ, i64_w, i32_w]
        rfl
      refine pure_ (i := 13) (N := some 45) (v := ?_) (a' := ?_) #[true, true, false, true, true, false, true, true, false, true, true, true, true, true, false, false, false, false] rfl rfl (by kernel_rfl) (fun _ _ _ h => h) (Or.inl ⟨by rfl, ?_⟩) ?_ ?_
      rotate_left
      · intro w'
        go_simp
        with_reducible rfl
      rotate_left
      · simp only [Act.put, List.setIfInBounds_toArray, List.set_cons_zero, List.set_cons_succ, i64_w, i32_w]
        rfl
      refine pure_ (i := 14) (N := some 46) (v := ?_) (a' := ?_) #[true, true, false, true, true, false, true, true, false, true, true, true, true, true, true, false, false, false] rfl rfl (by kernel_rfl) (fun _ _ _ h => h) (Or.inl ⟨by rfl, ?_⟩) ?_ ?_
      rotate_left
      · intro w'
        go_simp
        with_reducible rfl
      rotate_left
      · simp only [Act.put, List.setIfInBounds_toArray, List.set_cons_zero, List.set_cons_succ, i64_w, i32_w]
        rfl
      refine one_ (i := 2) (N := some 34) #[true, true, true, true, true, false, true, true, false, true, true, true, true, true, true, false, false, false] rfl rfl (by kernel_rfl) (by decide) (fun K hK => ?_)
      refine goes_ Try.func58 (by kernel_rfl) rfl #[.slice (some ad) 8 c] (by rfl) rfl rfl (by (try simp only [List.map_toArray, List.map_cons, List.map_nil]); first | done | rfl) ?_
      refine (OF1.out _ (some ad) _ (row_cut HC5.out).1 (by omega)).mono ?_
      rintro e W6 ⟨rfl, hd⟩
      refine ⟨_, rfl, ?_⟩
      have HC6 := Aside0.mk (Kd.C_below HC5.out hd.below)
      have HB6 := Aside0.mk (below_step HB5.out hd.below)
      have BK6 := Aside0.mk (blk_below BK5.out hd.below)
      clear hd HC5 HB5 BK5
      refine hK.out _ _ (cells32 HC6.out).1 (fun hHeld => ?_)
      clear hK K
      refine norm_ (a' := ?_) ?_ ?_
      rotate_left
      · show Act.put _ (some 34) _ = _
        simp only [Act.put, List.setIfInBounds_toArray, List.set_cons_zero, List.set_cons_succ, i64_w, i32_w]
        rfl
      refine one_ (i := 5) (N := some 37) #[true, true, true, true, true, true, true, true, false, true, true, true, true, true, true, false, false, false] rfl rfl (by kernel_rfl) (by decide) (fun K hK => ?_)
      refine goes_ Try.func58 (by kernel_rfl) rfl #[.slice (some ⟨ad.block, ad.off + 8, none⟩) 8 (c - 8)] (by rfl) rfl rfl (by (try simp only [List.map_toArray, List.map_cons, List.map_nil]); first | done | rfl) ?_
      refine (OF2.out _ (some ⟨ad.block, ad.off + 8, none⟩) _ (row_cut HC6.out).2.1 (by omega)).mono ?_
      rintro e W7 ⟨rfl, hd⟩
      refine ⟨_, rfl, ?_⟩
      have HC7 := Aside0.mk (Kd.C_below HC6.out hd.below)
      have HB7 := Aside0.mk (below_step HB6.out hd.below)
      have BK7 := Aside0.mk (blk_below BK6.out hd.below)
      clear hd HC6 HB6 BK6
      refine hK.out _ _ (cells32 HC7.out).1 (fun hHeld => ?_)
      clear hK K
      refine norm_ (a' := ?_) ?_ ?_
      rotate_left
      · show Act.put _ (some 37) _ = _
        simp only [Act.put, List.setIfInBounds_toArray, List.set_cons_zero, List.set_cons_succ, i64_w, i32_w]
        rfl
      refine one_ (i := 8) (N := some 40) #[true, true, true, true, true, true, true, true, true, true, true, true, true, true, true, false, false, false] rfl rfl (by kernel_rfl) (by decide) (fun K hK => ?_)
      refine goes_ Try.func58 (by kernel_rfl) rfl #[.slice (some ⟨ad.block, ad.off + 16, none⟩) 8 (c - 16)] (by rfl) rfl rfl (by (try simp only [List.map_toArray, List.map_cons, List.map_nil]); first | done | rfl) ?_
      refine (OF3.out _ (some ⟨ad.block, ad.off + 16, none⟩) _ (row_cut HC7.out).2.2 (by omega)).mono ?_
      rintro e W8 ⟨rfl, hd⟩
      refine ⟨_, rfl, ?_⟩
      have HC8 := Aside0.mk (Kd.C_below HC7.out hd.below)
      have HB8 := Aside0.mk (below_step HB7.out hd.below)
      have BK8 := Aside0.mk (blk_below BK7.out hd.below)
      clear hd HC7 HB7 BK7
      refine hK.out _ _ (cells32 HC8.out).1 (fun hHeld => ?_)
      clear hK K
      refine norm_ (a' := ?_) ?_ ?_
      rotate_left
      · show Act.put _ (some 40) _ = _
        simp only [Act.put, List.setIfInBounds_toArray, List.set_cons_zero, List.set_cons_succ, i64_w, i32_w]
        rfl
      refine pure_ (i := 15) (N := some 47) (v := ?_) (a' := ?_) #[true, true, true, true, true, true, true, true, true, true, true, true, true, true, true, true, false, false] rfl rfl (by kernel_rfl) (fun _ _ _ h => h) (Or.inl ⟨by rfl, ?_⟩) ?_ ?_
      rotate_left
      · intro w'
        go_simp
        with_reducible rfl
      rotate_left
      · simp only [Act.put, List.setIfInBounds_toArray, List.set_cons_zero, List.set_cons_succ, i64_w, i32_w]
        rfl
      refine one_ (i := 16) (N := none) #[true, true, true, true, true, true, true, true, true, true, true, true, true, true, true, true, true, false] rfl rfl (by kernel_rfl) (by decide) (fun K hK => ?_)
      have e0 : W8.cell? ⟨g4, 0, none⟩ = some (.int .u64 0) := (blk_cell BK8.out 0).trans rfl
      have e1 : W8.cell? ⟨g4, 1, none⟩ = some (.int .u64 0) := (blk_cell BK8.out 1).trans rfl
      have e2 : W8.cell? ⟨g4, 2, none⟩ = some (.int .u64 0) := (blk_cell BK8.out 2).trans rfl
      have e3 : W8.cell? ⟨g4, 3, none⟩ = some (.int .i64 0) := (blk_cell BK8.out 3).trans rfl
      have e4 : W8.cell? ⟨g4, 4, none⟩ = some (.int .i64 0) := (blk_cell BK8.out 4).trans rfl
      have e5 : W8.cell? ⟨g4, 5, none⟩ = some (.bool false) := (blk_cell BK8.out 5).trans rfl
      have u0f := blk_frozen BK8.out 0
      have u1f := blk_frozen BK8.out 1
      have u2f := blk_frozen BK8.out 2
      have u3f := blk_frozen BK8.out 3
      have u4f := blk_frozen BK8.out 4
      have u5f := blk_frozen BK8.out 5
      refine ev_skip (w' := ((((((W8.setCell ⟨g4, 0, none⟩ (.int .u64 (leval (l.take 8)))).setCell ⟨g4, 1, none⟩ (.int .u64 (leval ((l.drop 8).take 8)))).setCell ⟨g4, 2, none⟩ (.int .u64 (leval ((l.drop 16).take 8)))).setCell ⟨g4, 3, none⟩ (.int .i64 (rd l 24))).setCell ⟨g4, 4, none⟩ (.int .i64 (-1))).setCell ⟨g4, 5, none⟩ (.bool b))) (by rfl) rfl ?_ ?_
      · first | (go_simp; done) | (go_simp; rfl)
      have HB9 := Aside0.mk (show Below w.heap.size w ((((((W8.setCell ⟨g4, 0, none⟩ (.int .u64 (leval (l.take 8)))).setCell ⟨g4, 1, none⟩ (.int .u64 (leval ((l.drop 8).take 8)))).setCell ⟨g4, 2, none⟩ (.int .u64 (leval ((l.drop 16).take 8)))).setCell ⟨g4, 3, none⟩ (.int .i64 (rd l 24))).setCell ⟨g4, 4, none⟩ (.int .i64 (-1))).setCell ⟨g4, 5, none⟩ (.bool b)) from (below_set (below_set (below_set (below_set (below_set (below_set HB8.out G4.out) G4.out) G4.out) G4.out) G4.out) G4.out))
      have BK9 := Aside0.mk (show (((((((W8.setCell ⟨g4, 0, none⟩ (.int .u64 (leval (l.take 8)))).setCell ⟨g4, 1, none⟩ (.int .u64 (leval ((l.drop 8).take 8)))).setCell ⟨g4, 2, none⟩ (.int .u64 (leval ((l.drop 16).take 8)))).setCell ⟨g4, 3, none⟩ (.int .i64 (rd l 24))).setCell ⟨g4, 4, none⟩ (.int .i64 (-1))).setCell ⟨g4, 5, none⟩ (.bool b))).heap[g4]? = some (.cells #[.int .u64 (leval (l.take 8)), .int .u64 (leval ((l.drop 8).take 8)), .int .u64 (leval ((l.drop 16).take 8)), .int .i64 (rd l 24), .int .i64 (-1), .bool b] 41 (0, 0)) from (blk_put (blk_put (blk_put (blk_put (blk_put (blk_put BK8.out 0 _ rfl) 1 _ rfl) 2 _ rfl) 3 _ rfl) 4 _ rfl) 5 _ rfl))
      clear e0 u0f e1 u1f e2 u2f e3 u3f e4 u4f e5 u5f
      have HH9 : Held32 ad l ((((((W8.setCell ⟨g4, 0, none⟩ (.int .u64 (leval (l.take 8)))).setCell ⟨g4, 1, none⟩ (.int .u64 (leval ((l.drop 8).take 8)))).setCell ⟨g4, 2, none⟩ (.int .u64 (leval ((l.drop 16).take 8)))).setCell ⟨g4, 3, none⟩ (.int .i64 (rd l 24))).setCell ⟨g4, 4, none⟩ (.int .i64 (-1))).setCell ⟨g4, 5, none⟩ (.bool b)) := held_six NEA.out hHeld _ _ _ _ _ _
      generalize ((((((W8.setCell ⟨g4, 0, none⟩ (.int .u64 (leval (l.take 8)))).setCell ⟨g4, 1, none⟩ (.int .u64 (leval ((l.drop 8).take 8)))).setCell ⟨g4, 2, none⟩ (.int .u64 (leval ((l.drop 16).take 8)))).setCell ⟨g4, 3, none⟩ (.int .i64 (rd l 24))).setCell ⟨g4, 4, none⟩ (.int .i64 (-1))).setCell ⟨g4, 5, none⟩ (.bool b)) = W9 at HB9 BK9 HH9 ⊢
      refine hK.out _ _ HH9 (fun hHeld2 => ?_)
      clear hK K HH9 hHeld BK8 HB8
      refine norm_ (a' := ?_) ?_ ?_
      rotate_left
      · show Act.put _ none _ = _
        rfl
      refine pure_ (i := 17) (N := some 5) (v := ?_) (a' := ?_) #[true, true, true, true, true, true, true, true, true, true, true, true, true, true, true, true, true, true] rfl rfl (by kernel_rfl) (fun _ _ _ h => h) (Or.inl ⟨by rfl, ?_⟩) ?_ ?_
      rotate_left
      · intro w'
        go_simp
        with_reducible rfl
      rotate_left
      · simp only [Act.put, List.setIfInBounds_toArray, List.set_cons_zero, List.set_cons_succ, i64_w, i32_w]
        rfl
      refine done_ (by kernel_rfl) ?_
      clear hHeld2
      go_wp2
      refine bodyPost_ret (results_ct rfl _ _ g4 41 #[.int .u64 (leval (l.take 8)), .int .u64 (leval ((l.drop 8).take 8)), .int .u64 (leval ((l.drop 16).take 8)), .int .i64 (rd l 24), .int .i64 (-1), .bool b] (0, 0) _ rfl BK9.out Try.underlying41 rfl (by kernel_rfl)) rfl ?_
      exact ⟨rfl, HB9.out⟩
    · rw [if_neg hi]
      have d4 : decide (63 < rd l 25) = false := decide_eq_false hi
      replace hi := Aside0.mk hi
      go_enter Try.func45, Try.ntmps45
      go_wp2_with (first | ((with_reducible refine gate_dst (N := 4) rfl ?_); refine box_event ?hg (N := 4) ?hd (cs := #[.int .u64 0, .int .u64 0, .int .u64 0, .int .i64 0, .int .i64 0, .bool false]) (t := 41) ?hr ?_; (case hd => rfl); (case hg => rfl); (case hr => first | (go_simp; done) | (go_simp; rfl)); intro g4 hgb W1 hbox hb; have HB1 := Aside0.mk hb; have BK1 := Aside0.mk hbox; have G4 := Aside0.mk (show w.heap.size ≤ g4 by rw [hgb]; exact Nat.le_refl _); clear hb hbox hgb HB0) | (go_at_call 56; with_reducible refine (SP.out _ HB1.out).mono ?_; rintro e W2 ⟨rfl, hb⟩; have HB2 := Aside0.mk (below_step HB1.out hb); have BK2 := Aside0.mk (blk_below BK1.out hb); clear hb HB1 BK1) | (go_at_call 59; with_reducible refine (MA.out _ HB2.out).mono ?_; rintro e W3 ⟨v, rfl, hR, hb⟩; obtain ⟨ad, c, rfl, hC, hcc, hba⟩ := row32 hR HL.out; have NEA := Aside0.mk (show ad.block ≠ g4 from by have := blk_lt BK2.out; omega); clear hba; have HC3 := Aside0.mk hC; have HB3 := Aside0.mk (below_step HB2.out hb); have BK3 := Aside0.mk (blk_below BK2.out hb); obtain ⟨x24, x25⟩ := cells32 HC3.out; clear hR hb hC HB2 BK2; obtain ⟨A0x, c0x, A1x, c1x, A2x, c2x, ⟨z0, z1, z2, z3⟩, -, ⟨l0, l1, l2⟩, ⟨C0, C1, C2⟩⟩ := (h.below HB3.out).cells_; have HSX := Aside0.mk (HS.out _ A2x c2x C2 l2); clear z0 z1 z3 l0 l1 l2 C0 C1 C2) | (go_at_call 50; with_reducible refine HSX.out.mono ?_; rintro e W4 ⟨rfl, hb⟩; have HC4 := Aside0.mk (Kd.C_below HC3.out hb); have HB4 := Aside0.mk (below_step HB3.out hb); have BK4 := Aside0.mk (blk_below BK3.out hb); clear hb z2) | fail)
      have hc8 : (8 : Int) ≤ (c : Int) := by omega
      have hc16 : (16 : Int) ≤ (c : Int) := by omega
      have hc24 : (24 : Int) ≤ (c : Int) := by omega
      have hn8 : ¬ c = 8 := by omega
      have hn16 : ¬ c = 16 := by omega
      refine start_ (n := 18) (S := fun W => Held32 ad l W) (ds := []) #[false, false, false, false, false, false, false, false, false, false, false, false, false, false, false, false, false, false] (by kernel_rfl) rfl rfl (cells32 (Kd.C_drew HC4.out)).1 (fun hHeld => ?_)
      have HC5 := Aside0.mk (Kd.C_drew HC4.out)
      have HB5 := Aside0.mk (below_drew HB4.out)
      have BK5 := Aside0.mk (show W4.drew.heap[g4]? = _ from BK4.out)
      generalize W4.drew = W5 at HC5 HB5 BK5 hHeld ⊢
      clear HC4 HB4 BK4 HC3 HB3 BK3
      refine pure_ (i := 0) (N := some 32) (v := ?_) (a' := ?_) #[true, false, false, false, false, false, false, false, false, false, false, false, false, false, false, false, false, false] rfl rfl (by kernel_rfl) (fun _ _ _ h => h) (Or.inl ⟨by rfl, ?_⟩) ?_ ?_
      rotate_left
      · intro w'
        go_simp
        with_reducible rfl
      rotate_left
      · simp only [Act.put, List.setIfInBounds_toArray, List.set_cons_zero, List.set_cons_succ, i64_w, i32_w]
        rfl
      refine pure_ (i := 1) (N := some 33) (v := ?_) (a' := ?_) #[true, true, false, false, false, false, false, false, false, false, false, false, false, false, false, false, false, false] rfl rfl (by kernel_rfl) (fun _ _ _ h => h) (Or.inl ⟨by rfl, ?_⟩) ?_ ?_
      rotate_left
      · intro w'
        go_simp
        with_reducible rfl
      rotate_left
      · simp only [Act.put, List.setIfInBounds_toArray, List.set_cons_zero, List.set_cons_succ, i64_w, i32_w]
        rfl
      refine pure_ (i := 3) (N := some 35) (v := ?_) (a' := ?_) #[true, true, false, true, false, false, false, false, false, false, false, false, false, false, false, false, false, false] rfl rfl (by kernel_rfl) (fun _ _ _ h => h) (Or.inl ⟨by rfl, ?_⟩) ?_ ?_
      rotate_left
      · intro w'
        go_simp
        with_reducible rfl
      rotate_left
      · simp only [Act.put, List.setIfInBounds_toArray, List.set_cons_zero, List.set_cons_succ, i64_w, i32_w]
        rfl
      refine pure_ (i := 4) (N := some 36) (v := ?_) (a' := ?_) #[true, true, false, true, true, false, false, false, false, false, false, false, false, false, false, false, false, false] rfl rfl (by kernel_rfl) (fun _ _ _ h => h) (Or.inl ⟨by rfl, ?_⟩) ?_ ?_
      rotate_left
      · intro w'
        go_simp
        with_reducible rfl
      rotate_left
      · simp only [Act.put, List.setIfInBounds_toArray, List.set_cons_zero, List.set_cons_succ, i64_w, i32_w]
        rfl
      refine pure_ (i := 6) (N := some 38) (v := ?_) (a' := ?_) #[true, true, false, true, true, false, true, false, false, false, false, false, false, false, false, false, false, false] rfl rfl (by kernel_rfl) (fun _ _ _ h => h) (Or.inl ⟨by rfl, ?_⟩) ?_ ?_
      rotate_left
      · intro w'
        go_simp
        with_reducible rfl
      rotate_left
      · simp only [Act.put, List.setIfInBounds_toArray, List.set_cons_zero, List.set_cons_succ, i64_w, i32_w]
        rfl
      refine pure_ (i := 7) (N := some 39) (v := ?_) (a' := ?_) #[true, true, false, true, true, false, true, true, false, false, false, false, false, false, false, false, false, false] rfl rfl (by kernel_rfl) (fun _ _ _ h => h) (Or.inl ⟨by rfl, ?_⟩) ?_ ?_
      rotate_left
      · intro w'
        go_simp
        with_reducible rfl
      rotate_left
      · simp only [Act.put, List.setIfInBounds_toArray, List.set_cons_zero, List.set_cons_succ, i64_w, i32_w]
        rfl
      refine pure_ (i := 9) (N := some 41) (v := ?_) (a' := ?_) #[true, true, false, true, true, false, true, true, false, true, false, false, false, false, false, false, false, false] rfl rfl (by kernel_rfl) (fun _ _ _ h => h) (Or.inl ⟨by rfl, ?_⟩) ?_ ?_
      rotate_left
      · intro w'
        go_simp
        with_reducible rfl
      rotate_left
      · simp only [Act.put, List.setIfInBounds_toArray, List.set_cons_zero, List.set_cons_succ, i64_w, i32_w]
        rfl
      refine pure_ (i := 10) (N := some 42) (v := ?_) (a' := ?_) #[true, true, false, true, true, false, true, true, false, true, true, false, false, false, false, false, false, false] rfl rfl (by kernel_rfl) (fun _ _ _ h => h) (Or.inl ⟨by rfl, ?_⟩) ?_ ?_
      rotate_left
      · intro w'
        go_simp
        with_reducible rfl
      rotate_left
      · simp only [Act.put, List.setIfInBounds_toArray, List.set_cons_zero, List.set_cons_succ, i64_w, i32_w]
        rfl
      refine take_ (i := 11) (N := some 43) (v := ?_) (a' := ?_) #[true, true, false, true, true, false, true, true, false, true, true, true, false, false, false, false, false, false] rfl rfl (by kernel_rfl) (fun _ _ _ h => h) (Or.inl ⟨by rfl, ?_⟩) hHeld ?_ ?_
      rotate_left
      · rintro w' s0
        unfold Held32 at s0
        go_simp
        with_reducible rfl
      rotate_left
      · simp only [Act.put, List.setIfInBounds_toArray, List.set_cons_zero, List.set_cons_succ, i64_w, i32_w]
        rfl
      refine pure_ (i := 12) (N := some 44) (v := ?_) (a' := ?_) #[true, true, false, true, true, false, true, true, false, true, true, true, true, false, false, false, false, false] rfl rfl (by kernel_rfl) (fun _ _ _ h => h) (Or.inl ⟨by rfl, ?_⟩) ?_ ?_
      rotate_left
      · intro w'
        go_simp
        with_reducible rfl
      rotate_left
      · simp only [Act.put, List.setIfInBounds_toArray, List.set_cons_zero, List.set_cons_succ, i64_w, i32_w]
        rfl
      refine pure_ (i := 13) (N := some 45) (v := ?_) (a' := ?_) #[true, true, false, true, true, false, true, true, false, true, true, true, true, true, false, false, false, false] rfl rfl (by kernel_rfl) (fun _ _ _ h => h) (Or.inl ⟨by rfl, ?_⟩) ?_ ?_
      rotate_left
      · intro w'
        go_simp
        with_reducible rfl
      rotate_left
      · simp only [Act.put, List.setIfInBounds_toArray, List.set_cons_zero, List.set_cons_succ, i64_w, i32_w]
        rfl
      refine pure_ (i := 14) (N := some 46) (v := ?_) (a' := ?_) #[true, true, false, true, true, false, true, true, false, true, true, true, true, true, true, false, false, false] rfl rfl (by kernel_rfl) (fun _ _ _ h => h) (Or.inl ⟨by rfl, ?_⟩) ?_ ?_
      rotate_left
      · intro w'
        go_simp
        with_reducible rfl
      rotate_left
      · simp only [Act.put, List.setIfInBounds_toArray, List.set_cons_zero, List.set_cons_succ, i64_w, i32_w]
        rfl
      refine one_ (i := 2) (N := some 34) #[true, true, true, true, true, false, true, true, false, true, true, true, true, true, true, false, false, false] rfl rfl (by kernel_rfl) (by decide) (fun K hK => ?_)
      refine goes_ Try.func58 (by kernel_rfl) rfl #[.slice (some ad) 8 c] (by rfl) rfl rfl (by (try simp only [List.map_toArray, List.map_cons, List.map_nil]); first | done | rfl) ?_
      refine (OF1.out _ (some ad) _ (row_cut HC5.out).1 (by omega)).mono ?_
      rintro e W6 ⟨rfl, hd⟩
      refine ⟨_, rfl, ?_⟩
      have HC6 := Aside0.mk (Kd.C_below HC5.out hd.below)
      have HB6 := Aside0.mk (below_step HB5.out hd.below)
      have BK6 := Aside0.mk (blk_below BK5.out hd.below)
      clear hd HC5 HB5 BK5
      refine hK.out _ _ (cells32 HC6.out).1 (fun hHeld => ?_)
      clear hK K
      refine norm_ (a' := ?_) ?_ ?_
      rotate_left
      · show Act.put _ (some 34) _ = _
        simp only [Act.put, List.setIfInBounds_toArray, List.set_cons_zero, List.set_cons_succ, i64_w, i32_w]
        rfl
      refine one_ (i := 5) (N := some 37) #[true, true, true, true, true, true, true, true, false, true, true, true, true, true, true, false, false, false] rfl rfl (by kernel_rfl) (by decide) (fun K hK => ?_)
      refine goes_ Try.func58 (by kernel_rfl) rfl #[.slice (some ⟨ad.block, ad.off + 8, none⟩) 8 (c - 8)] (by rfl) rfl rfl (by (try simp only [List.map_toArray, List.map_cons, List.map_nil]); first | done | rfl) ?_
      refine (OF2.out _ (some ⟨ad.block, ad.off + 8, none⟩) _ (row_cut HC6.out).2.1 (by omega)).mono ?_
      rintro e W7 ⟨rfl, hd⟩
      refine ⟨_, rfl, ?_⟩
      have HC7 := Aside0.mk (Kd.C_below HC6.out hd.below)
      have HB7 := Aside0.mk (below_step HB6.out hd.below)
      have BK7 := Aside0.mk (blk_below BK6.out hd.below)
      clear hd HC6 HB6 BK6
      refine hK.out _ _ (cells32 HC7.out).1 (fun hHeld => ?_)
      clear hK K
      refine norm_ (a' := ?_) ?_ ?_
      rotate_left
      · show Act.put _ (some 37) _ = _
        simp only [Act.put, List.setIfInBounds_toArray, List.set_cons_zero, List.set_cons_succ, i64_w, i32_w]
        rfl
      refine one_ (i := 8) (N := some 40) #[true, true, true, true, true, true, true, true, true, true, true, true, true, true, true, false, false, false] rfl rfl (by kernel_rfl) (by decide) (fun K hK => ?_)
      refine goes_ Try.func58 (by kernel_rfl) rfl #[.slice (some ⟨ad.block, ad.off + 16, none⟩) 8 (c - 16)] (by rfl) rfl rfl (by (try simp only [List.map_toArray, List.map_cons, List.map_nil]); first | done | rfl) ?_
      refine (OF3.out _ (some ⟨ad.block, ad.off + 16, none⟩) _ (row_cut HC7.out).2.2 (by omega)).mono ?_
      rintro e W8 ⟨rfl, hd⟩
      refine ⟨_, rfl, ?_⟩
      have HC8 := Aside0.mk (Kd.C_below HC7.out hd.below)
      have HB8 := Aside0.mk (below_step HB7.out hd.below)
      have BK8 := Aside0.mk (blk_below BK7.out hd.below)
      clear hd HC7 HB7 BK7
      refine hK.out _ _ (cells32 HC8.out).1 (fun hHeld => ?_)
      clear hK K
      refine norm_ (a' := ?_) ?_ ?_
      rotate_left
      · show Act.put _ (some 40) _ = _
        simp only [Act.put, List.setIfInBounds_toArray, List.set_cons_zero, List.set_cons_succ, i64_w, i32_w]
        rfl
      refine pure_ (i := 15) (N := some 47) (v := ?_) (a' := ?_) #[true, true, true, true, true, true, true, true, true, true, true, true, true, true, true, true, false, false] rfl rfl (by kernel_rfl) (fun _ _ _ h => h) (Or.inl ⟨by rfl, ?_⟩) ?_ ?_
      rotate_left
      · intro w'
        go_simp
        with_reducible rfl
      rotate_left
      · simp only [Act.put, List.setIfInBounds_toArray, List.set_cons_zero, List.set_cons_succ, i64_w, i32_w]
        rfl
      refine one_ (i := 16) (N := none) #[true, true, true, true, true, true, true, true, true, true, true, true, true, true, true, true, true, false] rfl rfl (by kernel_rfl) (by decide) (fun K hK => ?_)
      have e0 : W8.cell? ⟨g4, 0, none⟩ = some (.int .u64 0) := (blk_cell BK8.out 0).trans rfl
      have e1 : W8.cell? ⟨g4, 1, none⟩ = some (.int .u64 0) := (blk_cell BK8.out 1).trans rfl
      have e2 : W8.cell? ⟨g4, 2, none⟩ = some (.int .u64 0) := (blk_cell BK8.out 2).trans rfl
      have e3 : W8.cell? ⟨g4, 3, none⟩ = some (.int .i64 0) := (blk_cell BK8.out 3).trans rfl
      have e4 : W8.cell? ⟨g4, 4, none⟩ = some (.int .i64 0) := (blk_cell BK8.out 4).trans rfl
      have e5 : W8.cell? ⟨g4, 5, none⟩ = some (.bool false) := (blk_cell BK8.out 5).trans rfl
      have u0f := blk_frozen BK8.out 0
      have u1f := blk_frozen BK8.out 1
      have u2f := blk_frozen BK8.out 2
      have u3f := blk_frozen BK8.out 3
      have u4f := blk_frozen BK8.out 4
      have u5f := blk_frozen BK8.out 5
      refine ev_skip (w' := ((((((W8.setCell ⟨g4, 0, none⟩ (.int .u64 (leval (l.take 8)))).setCell ⟨g4, 1, none⟩ (.int .u64 (leval ((l.drop 8).take 8)))).setCell ⟨g4, 2, none⟩ (.int .u64 (leval ((l.drop 16).take 8)))).setCell ⟨g4, 3, none⟩ (.int .i64 (rd l 24))).setCell ⟨g4, 4, none⟩ (.int .i64 (rd l 25))).setCell ⟨g4, 5, none⟩ (.bool b))) (by rfl) rfl ?_ ?_
      · first | (go_simp; done) | (go_simp; rfl)
      have HB9 := Aside0.mk (show Below w.heap.size w ((((((W8.setCell ⟨g4, 0, none⟩ (.int .u64 (leval (l.take 8)))).setCell ⟨g4, 1, none⟩ (.int .u64 (leval ((l.drop 8).take 8)))).setCell ⟨g4, 2, none⟩ (.int .u64 (leval ((l.drop 16).take 8)))).setCell ⟨g4, 3, none⟩ (.int .i64 (rd l 24))).setCell ⟨g4, 4, none⟩ (.int .i64 (rd l 25))).setCell ⟨g4, 5, none⟩ (.bool b)) from (below_set (below_set (below_set (below_set (below_set (below_set HB8.out G4.out) G4.out) G4.out) G4.out) G4.out) G4.out))
      have BK9 := Aside0.mk (show (((((((W8.setCell ⟨g4, 0, none⟩ (.int .u64 (leval (l.take 8)))).setCell ⟨g4, 1, none⟩ (.int .u64 (leval ((l.drop 8).take 8)))).setCell ⟨g4, 2, none⟩ (.int .u64 (leval ((l.drop 16).take 8)))).setCell ⟨g4, 3, none⟩ (.int .i64 (rd l 24))).setCell ⟨g4, 4, none⟩ (.int .i64 (rd l 25))).setCell ⟨g4, 5, none⟩ (.bool b))).heap[g4]? = some (.cells #[.int .u64 (leval (l.take 8)), .int .u64 (leval ((l.drop 8).take 8)), .int .u64 (leval ((l.drop 16).take 8)), .int .i64 (rd l 24), .int .i64 (rd l 25), .bool b] 41 (0, 0)) from (blk_put (blk_put (blk_put (blk_put (blk_put (blk_put BK8.out 0 _ rfl) 1 _ rfl) 2 _ rfl) 3 _ rfl) 4 _ rfl) 5 _ rfl))
      clear e0 u0f e1 u1f e2 u2f e3 u3f e4 u4f e5 u5f
      have HH9 : Held32 ad l ((((((W8.setCell ⟨g4, 0, none⟩ (.int .u64 (leval (l.take 8)))).setCell ⟨g4, 1, none⟩ (.int .u64 (leval ((l.drop 8).take 8)))).setCell ⟨g4, 2, none⟩ (.int .u64 (leval ((l.drop 16).take 8)))).setCell ⟨g4, 3, none⟩ (.int .i64 (rd l 24))).setCell ⟨g4, 4, none⟩ (.int .i64 (rd l 25))).setCell ⟨g4, 5, none⟩ (.bool b)) := held_six NEA.out hHeld _ _ _ _ _ _
      generalize ((((((W8.setCell ⟨g4, 0, none⟩ (.int .u64 (leval (l.take 8)))).setCell ⟨g4, 1, none⟩ (.int .u64 (leval ((l.drop 8).take 8)))).setCell ⟨g4, 2, none⟩ (.int .u64 (leval ((l.drop 16).take 8)))).setCell ⟨g4, 3, none⟩ (.int .i64 (rd l 24))).setCell ⟨g4, 4, none⟩ (.int .i64 (rd l 25))).setCell ⟨g4, 5, none⟩ (.bool b)) = W9 at HB9 BK9 HH9 ⊢
      refine hK.out _ _ HH9 (fun hHeld2 => ?_)
      clear hK K HH9 hHeld BK8 HB8
      refine norm_ (a' := ?_) ?_ ?_
      rotate_left
      · show Act.put _ none _ = _
        rfl
      refine pure_ (i := 17) (N := some 5) (v := ?_) (a' := ?_) #[true, true, true, true, true, true, true, true, true, true, true, true, true, true, true, true, true, true] rfl rfl (by kernel_rfl) (fun _ _ _ h => h) (Or.inl ⟨by rfl, ?_⟩) ?_ ?_
      rotate_left
      · intro w'
        go_simp
        with_reducible rfl
      rotate_left
      · simp only [Act.put, List.setIfInBounds_toArray, List.set_cons_zero, List.set_cons_succ, i64_w, i32_w]
        rfl
      refine done_ (by kernel_rfl) ?_
      clear hHeld2
      go_wp2
      refine bodyPost_ret (results_ct rfl _ _ g4 41 #[.int .u64 (leval (l.take 8)), .int .u64 (leval ((l.drop 8).take 8)), .int .u64 (leval ((l.drop 16).take 8)), .int .i64 (rd l 24), .int .i64 (rd l 25), .bool b] (0, 0) _ rfl BK9.out Try.underlying41 rfl (by kernel_rfl)) rfl ?_
      exact ⟨rfl, HB9.out⟩
end
end Go.Proofs.Ytkppgepljjgjhaa.P
