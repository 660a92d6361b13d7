/- The pure statement of the law CapTexts: the decimal numerals are read back. No condition. -/
import Derived.Test.YtafpkpalkaphkaaDoorKCapTextsPStCapTexts
import Derived.Test.YtafpkpalkaphkaaDoorKCapTextsTexts
namespace Go.Proofs.YtafpkpalkaphkaaDoor.Pure
open Go.RowKit Go.Proofs.YtafpkpalkaphkaaDoor.P Go.Proofs.YtafpkpalkaphkaaDoorW.PrintWords Go.Proofs.YtafpkpalkaphkaaDoorW.PrintLast
set_option linter.unusedVariables false
set_option linter.unusedSimpArgs false

def isDig (c : UInt8) : Bool := decide (48 ≤ c.toNat ∧ c.toNat ≤ 57)
theorem dig_of (d : Nat) (h : d < 10) : isDig (UInt8.ofNat (48 + d)) = true ∧ (UInt8.ofNat (48 + d)).toNat = 48 + d := by
  have e : (UInt8.ofNat (48 + d)).toNat = 48 + d := by
    rw [UInt8.toNat_ofNat']; omega
  refine ⟨?_, e⟩
  unfold isDig; rw [e]; exact decide_eq_true (by omega)
theorem decDigits_dig (u : Nat) : ∀ c ∈ Lib.decDigits u, isDig c = true := by
  induction u using Nat.strongRecOn with
  | _ u ih =>
    intro c hc
    rw [Lib.decDigits] at hc
    split at hc
    · rename_i h
      simp only [List.mem_singleton] at hc; subst hc; exact (dig_of u h).1
    · rename_i h
      rcases List.mem_append.1 hc with hc | hc
      · exact ih (u / 10) (by omega) c hc
      · simp only [List.mem_singleton] at hc; subst hc; exact (dig_of (u % 10) (by omega)).1
def val (l : List UInt8) : Nat := l.foldl (fun n c => 10 * n + (c.toNat - 48)) 0
theorem val_dec (u : Nat) : val (Lib.decDigits u) = u := by
  induction u using Nat.strongRecOn with
  | _ u ih =>
    rw [Lib.decDigits]
    split
    · rename_i h
      simp only [val, List.foldl_cons, List.foldl_nil, (dig_of u h).2]; omega
    · rename_i h
      have := ih (u / 10) (by omega)
      unfold val at this ⊢
      rw [List.foldl_append, this]
      simp only [List.foldl_cons, List.foldl_nil, (dig_of (u % 10) (by omega)).2]; omega
theorem split_at {x y : List UInt8} (hx : ∀ c l, x = c :: l → isDig c = false) (hy : ∀ c l, y = c :: l → isDig c = false) : ∀ (u v : List UInt8), (∀ c ∈ u, isDig c = true) → (∀ c ∈ v, isDig c = true) → u ++ x = v ++ y → u = v ∧ x = y
  | [], [], _, _, h => ⟨rfl, h⟩
  | [], d :: v, _, hv, h => by
    have := hx d (v ++ y) h
    rw [hv d (by simp)] at this; cases this
  | c :: u, [], hu, _, h => by
    have := hy c (u ++ x) h.symm
    rw [hu c (by simp)] at this; cases this
  | c :: u, d :: v, hu, hv, h => by
    simp only [List.cons_append, List.cons.injEq] at h
    obtain ⟨h1, h2⟩ := split_at hx hy u v (fun c hc => hu c (by simp [hc])) (fun c hc => hv c (by simp [hc])) h.2
    exact ⟨by rw [h.1, h1], h2⟩
theorem dec_split {m n : Int} {x y : List UInt8} (hm : 0 ≤ m) (hn : 0 ≤ n) (hx : ∀ c l, x = c :: l → isDig c = false) (hy : ∀ c l, y = c :: l → isDig c = false) (h : dec m ++ x = dec n ++ y) : m = n ∧ x = y := by
  obtain ⟨h1, h2⟩ := split_at hx hy _ _ (decDigits_dig _) (decDigits_dig _) h
  have := congrArg val h1
  unfold dec at this
  rw [val_dec, val_dec] at this
  exact ⟨by omega, h2⟩
theorem head_no {c : UInt8} {z : List UInt8} (h : isDig c = false) : ∀ d l, c :: z = d :: l → isDig d = false := by
  rintro d l h'; rw [← (List.cons.inj h').1]; exact h
theorem tail_no {y : Int} {f : List UInt8} : ∀ d l, (if y ≥ 0 then 33 :: f else []) = d :: l → isDig d = false := by
  rintro d l h'
  split at h'
  · rw [← (List.cons.inj h').1]; decide
  · cases h'
theorem txL_inj {b t a p y b' t' a' p' y' : Int} {g g' : Bool} (hb : 0 ≤ b) (ht : 0 ≤ t) (ha : 0 ≤ a) (hp : 0 ≤ p) (hy : -1 ≤ y) (hb' : 0 ≤ b') (ht' : 0 ≤ t') (ha' : 0 ≤ a') (hp' : 0 ≤ p') (hy' : -1 ≤ y')
    (h : txL g b t a p y = txL g' b' t' a' p' y') : b = b' ∧ t = t' ∧ a = a' ∧ p = p' ∧ y = y' ∧ g = g' := by
  unfold txL at h
  obtain ⟨hg, h⟩ := List.cons.inj h
  have hg' : g = g' := by cases g <;> cases g' <;> simp_all
  obtain ⟨e1, h⟩ := dec_split hb hb' (head_no (by decide)) (head_no (by decide)) h
  have h := (List.cons.inj (List.cons.inj h).2).2
  obtain ⟨e2, h⟩ := dec_split ht ht' (head_no (by decide)) (head_no (by decide)) h
  obtain ⟨e3, h⟩ := dec_split ha ha' (head_no (by decide)) (head_no (by decide)) (List.cons.inj h).2
  obtain ⟨e4, h⟩ := dec_split hp hp' tail_no tail_no (List.cons.inj h).2
  refine ⟨e1, e2, e3, e4, ?_, hg'⟩
  by_cases c1 : y ≥ 0
  · by_cases c2 : y' ≥ 0
    · rw [if_pos c1, if_pos c2] at h
      have h := congrArg val (List.cons.inj h).2
      unfold dec at h
      rw [val_dec, val_dec] at h
      omega
    · rw [if_pos c1, if_neg c2] at h; cases h
  · by_cases c2 : y' ≥ 0
    · rw [if_neg c1, if_pos c2] at h; cases h
    · omega
theorem toList_inj {s t : ByteArray} (h : s.data.toList = t.data.toList) : s = t := by
  cases s; cases t; simp only at h; rw [Array.toList_inj.1 h]
theorem bytes_inj {s t : ByteArray} : s.toList = t.toList ↔ s = t := by
  constructor
  · intro h
    rw [ByteArray.toList_eq, ByteArray.toList_eq] at h
    exact toList_inj h
  · rintro rfl; rfl

theorem CapTexts : curtilagelaw02_CapTexts.Pure := by
  rintro ⟨b, t, a, p, y, g⟩ ⟨b', t', a', p', y', g'⟩ ⟨h0, h1, h2, h3, h4, _⟩ ⟨h0', h1', h2', h3', h4', _⟩
  simp only at h0 h1 h2 h3 h4 h0' h1' h2' h3' h4' ⊢
  have h0 := u64_range h0; have h1 := u64_range h1; have h2 := u64_range h2; have h0' := u64_range h0'; have h1' := u64_range h1'; have h2' := u64_range h2'
  refine ⟨60 + 1, ?_⟩
  unfold curtilagelaw02_CapTexts.f
  rw [awake_is, right_is, right_is]
  simp only [Option.bind_some]
  by_cases r1 : 0 ≤ p ∧ p ≤ 255 ∧ -1 ≤ y ∧ y ≤ 63
  · by_cases r2 : 0 ≤ p' ∧ p' ≤ 255 ∧ -1 ≤ y' ∧ y' ≤ 63
    · rw [if_pos (decide_eq_true r1), decide_eq_true r2, curtilagelaw02_CapTexts.j0, show (60 : Nat) = 59 + 1 from rfl, text_is 59 b t a p y g h0 h1 h2 ⟨r1.1, r1.2.1⟩ r1.2.2, text_is 59 b' t' a' p' y' g' h0' h1' h2' ⟨r2.1, r2.2.1⟩ r2.2.2]
      simp only [Option.bind_some, Bool.not_true, Bool.false_eq_true, if_false, if_true, Option.some.injEq]
      by_cases e : tx (sign g) b t a p y = tx (sign g') b' t' a' p' y'
      · have e' := congrArg (fun s : ByteArray => s.data.toList) e
        rw [tx_list b t a p y g h0.1 h1.1 h2.1 r1.1, tx_list b' t' a' p' y' g' h0'.1 h1'.1 h2'.1 r2.1] at e'
        obtain ⟨rfl, rfl, rfl, rfl, rfl, rfl⟩ := txL_inj h0.1 h1.1 h2.1 r1.1 r1.2.2.1 h0'.1 h1'.1 h2'.1 r2.1 r2.2.2.1 e'
        simp
      · have n1 : ((tx (sign g) b t a p y).toList == (tx (sign g') b' t' a' p' y').toList) = false := beq_eq_false_iff_ne.2 (fun h => e (bytes_inj.1 h))
        rw [n1]
        by_cases q : b = b' ∧ t = t' ∧ a = a' ∧ p = p' ∧ y = y' ∧ g = g'
        · obtain ⟨rfl, rfl, rfl, rfl, rfl, rfl⟩ := q; exact absurd rfl e
        · have : (b == b' && (t == t' && (a == a' && (p == p' && (y == y' && g == g'))))) = false := by
            rw [Bool.eq_false_iff]; intro hc; apply q; simpa using hc
          rw [this]; rfl
    · rw [if_pos (decide_eq_true r1), decide_eq_false r2, curtilagelaw02_CapTexts.j0]; simp
  · rw [if_neg (by simp [r1]), curtilagelaw02_CapTexts.j0]; simp
end Go.Proofs.YtafpkpalkaphkaaDoor.Pure
