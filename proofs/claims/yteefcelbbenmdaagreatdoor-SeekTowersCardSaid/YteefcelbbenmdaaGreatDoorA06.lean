import Derived.Test.YteefcelbbenmdaaGreatDoorA05
set_option linter.all false
namespace Go.Ar.Mm
theorem u32_wrap (x : Int) : IntKind.u32.wrap x = x % 4294967296 := by simp [IntKind.wrap, IntKind.signed, IntKind.bits]
theorem u64_wrap (x : Int) : IntKind.u64.wrap x = x % 18446744073709551616 := by simp [IntKind.wrap, IntKind.signed, IntKind.bits]
structure HT (m r : Nat) : Prop where
 lo : 1 ≤ r
 hi : r ≤ 8
 set : r < 8 → m.testBit (r - 1) = true
 clr : ∀ i, i < r - 1 → m.testBit i = false
theorem HT.uniq {m r s : Nat} (h : HT m r) (k : HT m s) : r = s := by
 rcases Nat.lt_trichotomy r s with hlt | rfl | hlt
 ·have := h.set (by have := k.hi; omega)
  have := k.clr (r - 1) (by have := h.lo; omega)
  simp_all
 ·rfl
 ·have := k.set (by have := h.hi; omega)
  have := h.clr (s - 1) (by have := k.lo; omega)
  simp_all
theorem r01_bit {m i : Nat} (hm : m < 4294967296) (hi : i < 32) : p_r01_bit KK (m : Int) (i : Int) = some (if m.testBit i then 1 else 0) := by
 unfold p_r01_bit
 rw [decide_eq_false (p := (i : Int) < 0) (by omega), cond_false, decide_eq_false (p := (i : Int) > 31) (by omega), cond_false, u64_wrap, Int.emod_eq_of_lt (by omega) (by omega), nnN (by omega)]
 congr 1
 have e1 : shrV .u32 (m : Int) (i : Int) = ((m >>> i : Nat) : Int) := by
  unfold shrV
  rw [show min (i : Int).toNat IntKind.u32.bits = i by simp [IntKind.bits]; omega, Nat.shiftRight_eq_div_pow]
  rw [Int.fdiv_eq_ediv_of_nonneg _ (Int.le_of_lt (Int.pow_pos (by omega)))]
  push_cast; rfl
 rw [e1]
 unfold andV
 have hb : (BitVec.ofInt IntKind.u32.bits ((m >>> i : Nat) : Int) &&& BitVec.ofInt IntKind.u32.bits 1).toNat = (m >>> i) % 2 := by
  rw [BitVec.toNat_and, BitVec.toNat_ofInt, BitVec.toNat_ofInt]
  have hlt : m >>> i < 4294967296 := Nat.lt_of_le_of_lt (Nat.shiftRight_le m i) hm
  have e2 : (((m >>> i : Nat) : Int) % ((2 ^ IntKind.u32.bits : Nat) : Int)).toNat = m >>> i := by
   generalize m >>> i = q at hlt
   rw [show ((2 ^ IntKind.u32.bits : Nat) : Int) = 4294967296 from rfl, Int.emod_eq_of_lt (by omega) (by omega)]; simp
  rw [e2, show ((1 : Int) % ((2 ^ IntKind.u32.bits : Nat) : Int)).toNat = 1 from rfl, Nat.and_one_is_mod]
 rw [hb, u32_wrap]
 have ht : m.testBit i = decide ((m >>> i) % 2 = 1) := by rw [Nat.testBit_eq_decide_div_mod_eq, Nat.shiftRight_eq_div_pow]
 rw [ht]
 rcases Nat.mod_two_eq_zero_or_one (m >>> i) with h | h
 ·rw [h]; rfl
 ·rw [h]; rfl
theorem r01_Height {m : Nat} (hm : m < 4294967296) : ∃ r : Nat, p_r01_Height KK (m : Int) = some (r : Int) ∧ HT m r := by
 have key : ∀ d h fuel : Nat, 8 - h = d → 1 ≤ h → h ≤ 8 → d < fuel → (∀ i, i < h - 1 → m.testBit i = false) → ∃ r : Nat, p_r01_Height_L1 KK (m : Int) fuel (h : Int) = some (r : Int) ∧ HT m r := by
  intro d
  induction d with
  | zero =>
   intro h fuel hd h1 h8 hf hc
   obtain ⟨fuel, rfl⟩ : ∃ k, fuel = k + 1 := ⟨fuel - 1, by omega⟩
   have : h = 8 := by omega
   subst this
   unfold p_r01_Height_L1
   exact ⟨8, rfl, ⟨by omega, by omega, by omega, hc⟩⟩
  | succ d ih =>
   intro h fuel hd h1 h8 hf hc
   obtain ⟨fuel, rfl⟩ : ∃ k, fuel = k + 1 := ⟨fuel - 1, by omega⟩
   unfold p_r01_Height_L1
   rw [decide_eq_true (p := (h : Int) < 8) (by omega), cond_true, show w64 ((h : Int) - 1) = ((h - 1 : Nat) : Int) by rw [w64N] <;> omega, r01_bit hm (by omega)]
   simp only [Option.bind_some]
   cases hb : m.testBit (h - 1)
   ·rw [if_neg (by simp), show ((0 : Int) == 0) = true from rfl, cond_true, w64s (by omega)]
    refine ih (h + 1) fuel (by omega) (by omega) (by omega) (by omega) fun i hi => ?_
    by_cases e : i = h - 1
    ·rw [e]; exact hb
    ·exact hc i (by omega)
   ·rw [if_pos rfl, show ((1 : Int) == 0) = false from rfl, cond_false]
    exact ⟨h, rfl, ⟨h1, h8, fun _ => hb, hc⟩⟩
 obtain ⟨r, e1, e2⟩ := key 7 1 KK rfl (by omega) (by omega) (by show 7 < 1000; omega) (by intro i hi; omega)
 refine ⟨r, ?_, e2⟩
 unfold p_r01_Height
 rw [show (1 : Int) = ((1 : Nat) : Int) from rfl, e1]; rfl
theorem least_bit {m : Nat} (h : m ≠ 0) : ∃ k, m.testBit k = true ∧ ∀ i, i < k → m.testBit i = false := by
 obtain ⟨k, hk⟩ := Nat.exists_testBit_of_ne_zero h
 induction k using Nat.strongRecOn with
 | _ k ih =>
  by_cases hh : ∃ i, i < k ∧ m.testBit i = true
  ·obtain ⟨i, hi, hb⟩ := hh
   exact ih i hi hb
  ·refine ⟨k, hk, fun i hi => ?_⟩
   cases hb : m.testBit i
   ·rfl
   ·exact absurd ⟨i, hi, hb⟩ hh
theorem iso_bit {m k : Nat} (hm : m < 4294967296) (hk : m.testBit k = true) (hc : ∀ i, i < k → m.testBit i = false) : k < 32 ∧ andV .u32 (m : Int) (IntKind.u32.wrap (0 - (m : Int))) = ((2 ^ k : Nat) : Int) := by
 have hk32 : k < 32 := by
  refine Nat.lt_of_not_le fun hle => ?_
  have h1 := Nat.ge_two_pow_of_testBit hk
  have h2 : 2 ^ 32 ≤ 2 ^ k := Nat.pow_le_pow_right (by omega) hle
  omega
 refine ⟨hk32, ?_⟩
 unfold andV
 show IntKind.u32.wrap (((BitVec.ofInt 32 (m : Int) &&& BitVec.ofInt 32 (IntKind.u32.wrap (0 - (m : Int)))).toNat : Nat) : Int) = _
 have e1 : BitVec.ofInt 32 (IntKind.u32.wrap (0 - (m : Int))) = -(BitVec.ofNat 32 m) := by
  apply BitVec.eq_of_toNat_eq
  rw [u32_wrap, BitVec.toNat_ofInt, BitVec.toNat_neg, BitVec.toNat_ofNat]
  rw [show ((2 ^ 32 : Nat) : Int) = 4294967296 from rfl, show (2 ^ 32 : Nat) = 4294967296 from rfl, Nat.mod_eq_of_lt hm]
  omega
 have e2 : BitVec.ofInt 32 (m : Int) = BitVec.ofNat 32 m := by
  apply BitVec.eq_of_toNat_eq
  rw [BitVec.toNat_ofInt, BitVec.toNat_ofNat]
  rw [show ((2 ^ 32 : Nat) : Int) = 4294967296 from rfl, show (2 ^ 32 : Nat) = 4294967296 from rfl]
  omega
 rw [e1, e2]
 have e3 : (BitVec.ofNat 32 m &&& -(BitVec.ofNat 32 m)) = BitVec.twoPow 32 k := by
  apply BitVec.eq_of_getLsbD_eq
  intro i hi
  rw [BitVec.getLsbD_and, BitVec.getLsbD_neg, BitVec.getLsbD_twoPow, BitVec.getLsbD_ofNat]
  simp only [hi, decide_true, Bool.true_and]
  by_cases hik : i < k
  ·rw [hc i hik]; simp; omega
  ·by_cases e : i = k
   ·subst e
    rw [hk]
    have : decide (∃ j, j < i ∧ (BitVec.ofNat 32 m).getLsbD j = true) = false := by
     rw [decide_eq_false_iff_not]
     rintro ⟨j, hj, hb⟩
     rw [BitVec.getLsbD_ofNat, hc j hj] at hb
     simp at hb
    rw [this]; simp [hi]
   ·have : decide (∃ j, j < i ∧ (BitVec.ofNat 32 m).getLsbD j = true) = true := by
     rw [decide_eq_true_eq]
     exact ⟨k, by omega, by rw [BitVec.getLsbD_ofNat, hk]; simp [hk32]⟩
    rw [this]
    cases m.testBit i <;> simp <;> omega
 have e4 : (BitVec.ofNat 32 m &&& -(BitVec.ofNat 32 m)).toNat = 2 ^ k := by
  rw [e3, BitVec.toNat_twoPow, Nat.mod_eq_of_lt (Nat.pow_lt_pow_right (by omega) hk32)]
 have e5 : ∀ x : Nat, x = 2 ^ k → IntKind.u32.wrap (x : Int) = ((2 ^ k : Nat) : Int) := by
  rintro x rfl
  have : 2 ^ k < 2 ^ 32 := Nat.pow_lt_pow_right (by omega) hk32
  rw [u32_wrap, Int.emod_eq_of_lt (by omega) (by omega)]
 exact e5 _ e4
theorem deB : ∀ k : Fin 32, (bdP 32 (shrV .u32 (IntKind.u32.wrap (((2 ^ k.val : Nat) : Int) * 125613361)) 27) fun i1 => gtP deB32L i1 fun v2 => some (w64 v2)) = some ((k.val : Nat) : Int) := by decide +kernel
theorem coin_Height {m : Nat} (hm : m < 4294967296) : ∃ r : Nat, p_coin_Height KK (m : Int) = some (r : Int) ∧ HT m r := by
 unfold p_coin_Height p_math_bits_TrailingZeros32
 by_cases h0 : m = 0
 ·subst h0
  exact ⟨8, rfl, ⟨by omega, by omega, by omega, by simp⟩⟩
 ·obtain ⟨k, hk, hc⟩ := least_bit h0
  obtain ⟨h32, e⟩ := iso_bit hm hk hc
  rw [show ((m : Int) == 0) = false by simp only [beq_eq_false_iff_ne]; omega, cond_false, e]
  have := deB ⟨k, h32⟩
  simp only at this
  rw [this]
  simp only [Option.bind_some]
  rw [w64s (by omega)]
  by_cases h8 : (8 : Int) < ((k + 1 : Nat) : Int)
  ·rw [if_pos h8]
   exact ⟨8, rfl, ⟨by omega, by omega, by omega, fun i hi => hc i (by omega)⟩⟩
  ·rw [if_neg h8]
   exact ⟨k + 1, rfl, ⟨by omega, by omega, fun _ => hk, fun i hi => hc i (by omega)⟩⟩
theorem height_eq {m : Nat} (hm : m < 4294967296) : ∃ r : Nat, p_coin_Height KK (m : Int) = some (r : Int) ∧ p_r01_Height KK (m : Int) = some (r : Int) ∧ 1 ≤ r ∧ r ≤ 8 := by
 obtain ⟨r, e1, h1⟩ := coin_Height hm
 obtain ⟨s, e2, h2⟩ := r01_Height hm
 have := h1.uniq h2
 subst this
 exact ⟨r, e1, e2, h1.lo, h1.hi⟩
theorem coin_At {sc : List Int} {i : Nat} (hs : ∀ x ∈ sc, 0 ≤ x ∧ x < 4294967296) : ∃ m : Nat, m < 4294967296 ∧ p_coin_At KK sc (i : Int) = some (m : Int) ∧ p_r01_At KK sc (i : Int) = some (m : Int) := by
 have : ∃ m : Nat, m < 4294967296 ∧ p_coin_At KK sc (i : Int) = some (m : Int) := by
  unfold p_coin_At
  rw [decide_eq_false (p := (i : Int) < 0) (by omega), cond_false]
  by_cases h : sc.length = 0
  ·rw [h]; exact ⟨0, by omega, rfl⟩
  ·rw [show ((sc.length : Int) == 0) = false by simp only [beq_eq_false_iff_ne]; omega, cond_false, nzN (by omega), tmodN]
   have hlt : i % sc.length < sc.length := Nat.mod_lt _ (by omega)
   rw [ixN (List.getElem?_eq_getElem hlt)]
   have := hs _ (List.getElem_mem hlt)
   exact ⟨(sc[i % sc.length]).toNat, by omega, by congr 1; omega⟩
 obtain ⟨m, h1, h2⟩ := this
 exact ⟨m, h1, h2, h2⟩
theorem heights_eq {l sc : List Int} (hl : l.length < 900) (h0 : ∀ x ∈ l, 0 ≤ x) (hs : ∀ x ∈ sc, 0 ≤ x ∧ x < 4294967296) : ∃ hh : List Nat, hh.length = l.length ∧ (∀ h ∈ hh, 1 ≤ h ∧ h ≤ 8) ∧ p_tower_Heights KK l sc = some (cs hh) ∧ p_r14_Heights KK l sc = some (cs hh) := by
 have key : ∀ (rest : List Int) (j fuel : Nat) (acc : List Nat), l.drop j = rest → j + rest.length = l.length → rest.length < fuel → acc.length = j → (∀ h ∈ acc, 1 ≤ h ∧ h ≤ 8) →
     ∃ hh : List Nat, hh.length = l.length ∧ (∀ h ∈ hh, 1 ≤ h ∧ h ≤ 8) ∧ p_tower_Heights_L1 KK l sc fuel (j : Int) (cs acc) = some (cs hh) ∧ p_r14_Heights_L1 KK l sc fuel (j : Int) (cs acc) = some (cs hh) := by
  intro rest
  induction rest with
  | nil =>
   intro j fuel acc hd hj hf ha hb
   obtain ⟨fuel, rfl⟩ : ∃ k, fuel = k + 1 := ⟨fuel - 1, by simp at hf; omega⟩
   simp at hj
   unfold p_tower_Heights_L1 p_r14_Heights_L1
   rw [ltF (by omega), cond_false, cond_false]
   exact ⟨acc, by omega, hb, rfl, rfl⟩
  | cons x rest ih =>
   intro j fuel acc hd hj hf ha hb
   obtain ⟨fuel, rfl⟩ : ∃ k, fuel = k + 1 := ⟨fuel - 1, by simp at hf; omega⟩
   simp only [List.length_cons] at hj hf
   have hlt : j < l.length := by omega
   have hdr := List.drop_eq_getElem_cons hlt
   rw [hd] at hdr
   simp only [List.cons.injEq] at hdr
   have hx : l[j]? = some x := by rw [List.getElem?_eq_getElem hlt, hdr.1]
   have hx0 := h0 x (List.mem_of_getElem? hx)
   obtain ⟨y, rfl⟩ : ∃ y : Nat, x = (y : Int) := ⟨x.toNat, by omega⟩
   obtain ⟨m, m1, m2, m3⟩ := coin_At (i := y) hs
   obtain ⟨r, r1, r2, r3, r4⟩ := height_eq m1
   unfold p_tower_Heights_L1 p_r14_Heights_L1
   rw [ltT hlt, cond_true, cond_true, ixN hx, ixN hx, decide_eq_false (p := (y : Int) < 0) (by omega), cond_false, decide_eq_true (p := (y : Int) ≥ 0) (by omega), cond_true, ixN hx, m2, m3]
   simp only [Option.bind_some, r1, r2]
   rw [apN (by simp [cs_len]; omega) (by omega)]
   simp only [Option.bind_some]
   rw [apN (by simp [cs_len]; omega) (by omega), w64s (by omega), show cs acc ++ [(r : Int)] = cs (acc ++ [r]) by simp [cs]]
   exact ih (j + 1) fuel (acc ++ [r]) hdr.2.symm (by omega) (by omega) (by simp [ha]) (by
    intro h hh
    rcases List.mem_append.1 hh with hh | hh
    ·exact hb h hh
    ·simp at hh; subst hh; exact ⟨r3, r4⟩)
 obtain ⟨hh, e1, e2, e3, e4⟩ := key l 0 KK [] rfl (by simp) (by show _ < 1000; omega) rfl (by simp)
 refine ⟨hh, e1, e2, ?_, ?_⟩
 ·unfold p_tower_Heights
  rw [show (0 : Int) = ((0 : Nat) : Int) from rfl, show ([] : List Int) = cs [] from rfl, e3]; rfl
 ·unfold p_r14_Heights
  rw [show (0 : Int) = ((0 : Nat) : Int) from rfl, show ([] : List Int) = cs [] from rfl, e4]; rfl
end Go.Ar.Mm
namespace Go.Ar.Mm
def nxd (hh : List Nat) (i h : Nat) : Nat := ((List.range hh.length).findIdx fun d => decide (h < gt hh ((i + d + 1) % hh.length))) + 1
theorem nxd_spec {hh : List Nat} {i h : Nat} (hi : i < hh.length) (hh' : h < gt hh i) : 1 ≤ nxd hh i h ∧ nxd hh i h ≤ hh.length ∧ h < gt hh ((i + nxd hh i h) % hh.length) ∧ ∀ e, 1 ≤ e → e < nxd hh i h → gt hh ((i + e) % hh.length) ≤ h := by
 unfold nxd
 have hex : ∃ x ∈ List.range hh.length, decide (h < gt hh ((i + x + 1) % hh.length)) = true := by
  refine ⟨hh.length - 1, by simp; omega, ?_⟩
  rw [show i + (hh.length - 1) + 1 = i + hh.length by omega, Nat.add_mod_right, Nat.mod_eq_of_lt hi]
  simpa using hh'
 have hlt := List.findIdx_lt_length_of_exists hex
 have hg := List.findIdx_getElem (w := hlt)
 simp only [List.getElem_range, decide_eq_true_eq] at hg
 simp only [List.length_range] at hlt
 refine ⟨by omega, by omega, by rw [← Nat.add_assoc]; exact hg, fun e h1 h2 => ?_⟩
 have := List.not_of_lt_findIdx (p := fun d => decide (h < gt hh ((i + d + 1) % hh.length))) (xs := List.range hh.length) (i := e - 1) (by omega)
 simp only [List.getElem_range, decide_eq_true_eq] at this
 rw [show i + (e - 1) + 1 = i + e by omega] at this
 simp at this; omega
def nxi (hh : List Nat) (i h : Nat) : Nat := (i + nxd hh i h) % hh.length
def nxl (hh : List Nat) (i : Nat) : List Int := cs ((List.range (gt hh i)).map (nxi hh i))
def nxs (hh : List Nat) : List (List Int) := (List.range hh.length).map (nxl hh)
def TB (l : List Int) (hh : List Nat) : Tw × Int := (⟨l, cs hh, nxs hh⟩, 0)
structure Hts (l : List Int) (hh : List Nat) : Prop where
 len : hh.length = l.length
 rng : ∀ h ∈ hh, 1 ≤ h ∧ h ≤ 8
 pos : 0 < l.length
theorem Hts.gt {l : List Int} {hh : List Nat} (h : Hts l hh) {i : Nat} (hi : i < l.length) : 1 ≤ gt hh i ∧ gt hh i ≤ 8 := by
 have hg := gt_of (c := hh) (v := i) (by rw [h.len]; exact hi)
 exact h.rng _ (List.mem_of_getElem? hg)
theorem r14_L4 {l : List Int} {hh : List Nat} {i h : Nat} (H : Hts l hh) (hl : l.length < 900) (hi : i < l.length) (hhi : h < gt hh i) :
    ∀ m d fuel : Nat, nxd hh i h - d = m → 1 ≤ d → d ≤ nxd hh i h → m < fuel → p_r14_Build_L4 KK l (cs hh) (i : Int) (h : Int) fuel (d : Int) = some ((nxd hh i h : Nat) : Int) := by
 obtain ⟨s1, s2, s3, s4⟩ := nxd_spec (by rw [H.len]; exact hi) hhi
 have hlen := H.len
 have hpos := H.pos
 intro m
 induction m with
 | zero =>
  intro d fuel hm h1 h2 hf
  obtain ⟨fuel, rfl⟩ : ∃ k, fuel = k + 1 := ⟨fuel - 1, by omega⟩
  have hd : d = nxd hh i h := by omega
  subst hd
  have hlt : (i + nxd hh i h) % l.length < hh.length := by rw [hlen]; exact Nat.mod_lt _ hpos
  unfold p_r14_Build_L4
  rw [nzN (by omega), show (i : Int) + ((nxd hh i h : Nat) : Int) = ((i + nxd hh i h : Nat) : Int) by omega, w64c (by omega), tmodN, ixN (cs_get hlt)]
  rw [hlen] at s3
  rw [decide_eq_false (p := ((gt hh ((i + nxd hh i h) % l.length) : Nat) : Int) ≤ (h : Int)) (by omega), cond_false]
 | succ m ih =>
  intro d fuel hm h1 h2 hf
  obtain ⟨fuel, rfl⟩ : ∃ k, fuel = k + 1 := ⟨fuel - 1, by omega⟩
  have hlt : (i + d) % l.length < hh.length := by rw [hlen]; exact Nat.mod_lt _ hpos
  unfold p_r14_Build_L4
  rw [nzN (by omega), show (i : Int) + (d : Int) = ((i + d : Nat) : Int) by omega, w64c (by omega), tmodN, ixN (cs_get hlt)]
  have := s4 d h1 (by omega)
  rw [hlen] at this
  rw [decide_eq_true (p := ((gt hh ((i + d) % l.length) : Nat) : Int) ≤ (h : Int)) (by omega), cond_true, w64s (by omega)]
  exact ih (d + 1) fuel (by omega) (by omega) (by omega) (by omega)
theorem r14_L3 {l : List Int} {hh : List Nat} {i : Nat} (H : Hts l hh) (hl : l.length < 900) (hi : i < l.length) : p_r14_Build_L3 KK (cs hh) (i : Int) l KK 0 [] = some (nxl hh i) := by
 have hg := cs_get (c := hh) (v := i) (by rw [H.len]; exact hi)
 obtain ⟨g1, g8⟩ := H.gt hi
 have hlen := H.len
 have := loopC (σ := List Int) (ρ := List Int) (gt hh i) (fun k j s => p_r14_Build_L3 KK (cs hh) (i : Int) l k (j : Int) s) (fun j s => some (s ++ cs (((List.range (gt hh i)).drop j).map (nxi hh i)))) (fun j s => s.length = j)
  (fun k s _ => by
   simp only [p_r14_Build_L3]
   rw [ixN hg, ltF (Nat.le_refl _), cond_false, List.drop_eq_nil_of_le (by simp)]; simp [cs])
  (fun k j s hs hj ih => by
   obtain ⟨s1, s2, _⟩ := nxd_spec (by rw [H.len]; exact hi) hj
   simp only [p_r14_Build_L3]
   rw [ixN hg, ltT hj, cond_true, show (1 : Int) = ((1 : Nat) : Int) from rfl, r14_L4 H hl hi hj _ 1 KK rfl (by omega) (by omega) (by show _ < 1000; omega)]
   simp only [Option.bind_some]
   rw [nzN (by omega), show (i : Int) + ((nxd hh i j : Nat) : Int) = ((i + nxd hh i j : Nat) : Int) by omega, w64c (by omega), tmodN, apN (by simp; omega) (by omega)]
   simp only [Option.bind_some]
   have e := ih (s ++ [(((i + nxd hh i j) % l.length : Nat) : Int)]) (by simp [hs])
   rw [show ((1 : Nat) : Int) = 1 from rfl, w64s (by omega), e, List.drop_eq_getElem_cons (i := j) (by simpa using hj)]
   simp [cs, nxi, hlen])
  (j := 0) (n := KK) (s := []) (Nat.zero_le _) (by show _ < 1000; omega) rfl
 simpa [nxl] using this
theorem r14_Build {l : List Int} {hh : List Nat} (H : Hts l hh) (R : Rg l) : p_r14_Build KK l (cs hh) = some (TB l hh) := by
 have hl := R.len
 have hlen := H.len
 have hpos := H.pos
 have h1 := loopC (σ := Unit) (ρ := Sum Unit (Tw × Int)) l.length (fun k j _ => p_r14_Build_L1 KK l (cs hh) k (j : Int)) (fun _ _ => some (.inl ())) (fun _ _ => True)
  (fun k s _ => by simp only [p_r14_Build_L1]; rw [ltF (Nat.le_refl _), cond_false])
  (fun k j s _ hj ih => by
   have hg := cs_get (c := hh) (v := j) (by rw [hlen]; exact hj)
   obtain ⟨g1, g8⟩ := H.gt hj
   simp only [p_r14_Build_L1]
   rw [ltT hj, cond_true, ixN hg, decide_eq_false (p := ((gt hh j : Nat) : Int) < 1) (by omega), cond_false, ixN hg, decide_eq_false (p := ((gt hh j : Nat) : Int) > 8) (by omega), cond_false, w64s (by omega)]
   exact ih () trivial)
  (j := 0) (n := KK) (s := ()) (Nat.zero_le _) (by show _ < 1000; omega) trivial
 have h2 := loopC (σ := List (List Int)) (ρ := List (List Int)) l.length (fun k j s => p_r14_Build_L2 KK l (cs hh) k (j : Int) s) (fun j s => some (s ++ ((List.range l.length).drop j).map (nxl hh))) (fun j s => s.length = j)
  (fun k s _ => by simp only [p_r14_Build_L2]; rw [ltF (Nat.le_refl _), cond_false, List.drop_eq_nil_of_le (by simp)]; simp)
  (fun k j s hs hj ih => by
   simp only [p_r14_Build_L2]
   rw [ltT hj, cond_true, r14_L3 H hl hj]
   simp only [Option.bind_some]
   rw [apN (by simp; omega) (by omega)]
   simp only [Option.bind_some]
   rw [w64s (by omega), ih _ (by simp [hs]), List.drop_eq_getElem_cons (i := j) (by simpa using hj)]
   simp)
  (j := 0) (n := KK) (s := []) (Nat.zero_le _) (by show _ < 1000; omega) rfl
 unfold p_r14_Build
 rw [r13_Right R]
 simp only [Option.bind_some, Bool.not_true, cond_false]
 rw [show ((l.length : Int) == 0) = false by simp only [beq_eq_false_iff_ne]; omega, cond_false, show (((cs hh).length : Int) != (l.length : Int)) = false by rw [cs_len, hlen]; simp, cond_false, show (0 : Int) = ((0 : Nat) : Int) from rfl, h1]
 simp only [Option.bind_some]
 rw [apN (by simp; omega) (by omega), apN (by rw [cs_len, hlen]; simp; omega) (by omega), h2]
 simp [TB, nxs, hlen]
def idx (n k : Nat) : Nat := n - 1 - k % n
def LF (hh : List Nat) : Nat → Nat → Nat
 | 0, _ => 0
 | k + 1, h => if h < gt hh (idx hh.length k) then idx hh.length k else LF hh k h
theorem idx_back {n k e : Nat} (hn : 0 < n) (he : e ≤ n) (hk : n ≤ k) : idx n (k - e) = (idx n k + e) % n := by
 unfold idx
 have hr : k % n < n := Nat.mod_lt _ hn
 have hd := Nat.div_add_mod k n
 have hq : 1 ≤ k / n := (Nat.le_div_iff_mul_le hn).2 (by omega)
 generalize k % n = r at *
 generalize hqq : k / n = q at *
 obtain ⟨q, rfl⟩ : ∃ p, q = p + 1 := ⟨q - 1, by omega⟩
 have hmul : n * (q + 1) = n * q + n := by rw [Nat.mul_add]; omega
 by_cases h : e ≤ r
 ·have e1 : (k - e) % n = r - e := by
   have : k - e = n * (q + 1) + (r - e) := by omega
   rw [this, Nat.mul_add_mod, Nat.mod_eq_of_lt (by omega)]
  rw [e1, Nat.mod_eq_of_lt (by omega)]; omega
 ·have e1 : (k - e) % n = n + r - e := by
   have : k - e = n * q + (n + r - e) := by omega
   rw [this, Nat.mul_add_mod, Nat.mod_eq_of_lt (by omega)]
  rw [e1, show n - 1 - r + e = n + (e - r - 1) by omega, Nat.add_mod_left, Nat.mod_eq_of_lt (by omega)]; omega
theorem LF_nxi {hh : List Nat} {k h : Nat} (hk : hh.length ≤ k) (hpos : 0 < hh.length) (hlt : h < gt hh (idx hh.length k)) : LF hh k h = nxi hh (idx hh.length k) h := by
 have hi : idx hh.length k < hh.length := by unfold idx; omega
 obtain ⟨s1, s2, s3, s4⟩ := nxd_spec hi hlt
 have key : ∀ e, e < nxd hh (idx hh.length k) h → LF hh k h = LF hh (k - e) h := by
  intro e
  induction e with
  | zero => intro _; rfl
  | succ e ih =>
   intro he
   rw [ih (by omega)]
   obtain ⟨m, hm⟩ : ∃ m, k - e = m + 1 := ⟨k - e - 1, by omega⟩
   rw [hm, show k - (e + 1) = m by omega]
   show (if _ then _ else _) = _
   have hb := idx_back (e := e + 1) hpos (by omega) hk
   rw [show k - (e + 1) = m by omega] at hb
   rw [hb, if_neg (by have := s4 (e + 1) (by omega) he; omega)]
 rw [key (nxd hh (idx hh.length k) h - 1) (by omega)]
 obtain ⟨m, hm⟩ : ∃ m, k - (nxd hh (idx hh.length k) h - 1) = m + 1 := ⟨k - (nxd hh (idx hh.length k) h - 1) - 1, by omega⟩
 rw [hm]
 show (if _ then _ else _) = _
 have hb := idx_back (e := nxd hh (idx hh.length k) h) hpos s2 hk
 rw [show k - nxd hh (idx hh.length k) h = m by omega] at hb
 rw [hb, if_pos s3]; rfl
def S4 (hh : List Nat) (k : Nat) : List Int := cs ((List.range 8).map (LF hh k))
def S2 (hh : List Nat) (k : Nat) : List (Option (List Int)) := (List.range hh.length).map fun i => if 2 * hh.length - 1 - i < k then some (nxl hh i) else none
theorem range_map_set {α : Type} {n i : Nat} {f g : Nat → α} (hi : i < n) (h : ∀ j, j < n → j ≠ i → f j = g j) : ((List.range n).map f).set i (g i) = (List.range n).map g := by
 refine List.ext_getElem? fun j => ?_
 by_cases e : i = j
 ·subst e
  rw [List.getElem?_set_self (by simpa using hi)]
  simp [hi]
 ·rw [List.getElem?_set_ne e]
  by_cases hj : j < n
  ·simp [hj, h j hj (Ne.symm e)]
  ·simp [hj]
theorem tower_L2 {l : List Int} {hh : List Nat} {k : Nat} {l2 : List (Option (List Int))} (H : Hts l hh) (hl : l.length < 900) (hk : k < 2 * l.length) :
    p_tower_Build_L2 KK l (k : Int) l2 KK ((gt hh (idx l.length k) : Nat) : Int) 0 (S4 hh k) = some (S4 hh (k + 1), l2) := by
 have hlen := H.len
 have hpos := H.pos
 have hi : idx l.length k < l.length := by unfold idx; omega
 obtain ⟨g1, g8⟩ := H.gt hi
 have hx : w64 (w64 ((l.length : Int) - 1) - Int.tmod (k : Int) (l.length : Int)) = ((idx l.length k : Nat) : Int) := by
  have hr : k % l.length < l.length := Nat.mod_lt _ hpos
  rw [tmodN, w64N (x := (l.length : Int) - 1) (by omega) (by omega), w64N (by omega) (by omega)]
  unfold idx; omega
 have := loopC (σ := List Int) (ρ := List Int × List (Option (List Int))) (gt hh (idx l.length k)) (fun f j s => p_tower_Build_L2 KK l (k : Int) l2 f ((gt hh (idx l.length k) : Nat) : Int) (j : Int) s) (fun _ _ => some (S4 hh (k + 1), l2)) (fun j s => s = cs ((List.range 8).map fun h => if h < j then idx l.length k else LF hh k h))
  (fun f s hs => by
   simp only [p_tower_Build_L2]
   rw [ltF (Nat.le_refl _), cond_false, hs]
   unfold S4
   simp only [LF, hlen])
  (fun f j s hs hj ih => by
   have hsl : s.length = 8 := by rw [hs, cs_len]; simp
   have hg : s[j]? = some s[j] := List.getElem?_eq_getElem (by omega)
   simp only [p_tower_Build_L2]
   rw [ltT hj, cond_true, bdN (by omega), gtN hg, w64s (by omega), hx]
   refine ih _ ?_
   rw [hs, cs_set]
   congr 1
   have := range_map_set (n := 8) (i := j) (f := fun h => if h < j then idx l.length k else LF hh k h) (g := fun h => if h < j + 1 then idx l.length k else LF hh k h) (by omega) (fun h _ hne => by
    by_cases h1 : h < j
    ·rw [if_pos h1, if_pos (by omega)]
    ·rw [if_neg h1, if_neg (by omega)])
   simp only [show j < j + 1 by omega, if_true] at this
   exact this)
  (j := 0) (n := KK) (s := S4 hh k) (Nat.zero_le _) (by show _ < 1000; omega) (by unfold S4; simp)
 simpa using this
theorem tower_L1 {l : List Int} {hh : List Nat} (H : Hts l hh) (hl : l.length < 400) : p_tower_Build_L1 KK l (cs hh) KK 0 l (cs hh) (S4 hh 0) (S2 hh 0) = some (l, cs hh, S2 hh (2 * l.length)) := by
 have hlen := H.len
 have hpos := H.pos
 have h2n : w64 (2 * (l.length : Int)) = ((2 * l.length : Nat) : Int) := by rw [w64N] <;> omega
 have := loopC (σ := Unit) (ρ := List Int × List Int × List (Option (List Int))) (2 * l.length) (fun f k _ => p_tower_Build_L1 KK l (cs hh) f (k : Int) l (cs hh) (S4 hh k) (S2 hh k)) (fun _ _ => some (l, cs hh, S2 hh (2 * l.length))) (fun _ _ => True)
  (fun f s _ => by
   simp only [p_tower_Build_L1]
   rw [h2n, ltF (Nat.le_refl _), cond_false])
  (fun f k s _ hk ih => by
   have hr : k % l.length < l.length := Nat.mod_lt _ hpos
   have hi : idx l.length k < l.length := by unfold idx; omega
   obtain ⟨g1, g8⟩ := H.gt hi
   have hg := cs_get (c := hh) (v := idx l.length k) (by rw [hlen]; exact hi)
   have hx : w64 (w64 ((l.length : Int) - 1) - Int.tmod (k : Int) (l.length : Int)) = ((idx l.length k : Nat) : Int) := by
    rw [tmodN, w64N (x := (l.length : Int) - 1) (by omega) (by omega), w64N (by omega) (by omega)]
    unfold idx; omega
   have h4 : (S4 hh k).length = 8 := by unfold S4; rw [cs_len]; simp
   have hl9 : l.length < 900 := by omega
   have hs2 : (S2 hh k).length = l.length := by unfold S2; simp [hlen]
   have hget : (S2 hh k)[idx l.length k]? = some (S2 hh k)[idx l.length k] := List.getElem?_eq_getElem (by omega)
   simp only [p_tower_Build_L1]
   rw [h2n, ltT hk, cond_true, nzN (by omega), hx]
   have fin : ∀ l2, l2 = S2 hh (k + 1) → ((((ixP (cs hh) ((idx l.length k : Nat) : Int) fun v14 => p_tower_Build_L2 KK l (k : Int) l2 KK v14 0 (S4 hh k)) : Option ((List Int) × (List (Option (List Int))))).bind fun (l4_3, l2_3) => p_tower_Build_L1 KK l (cs hh) f (w64 ((k : Int) + 1)) l (cs hh) l4_3 l2_3)) = some (l, cs hh, S2 hh (2 * l.length)) := by
    rintro l2 rfl
    rw [ixN hg, tower_L2 H hl9 hk]
    simp only [Option.bind_some]
    rw [w64s (by omega)]
    exact ih () trivial
   by_cases hkn : l.length ≤ k
   ·rw [decide_eq_true (p := (k : Int) ≥ (l.length : Int)) (by omega), cond_true, ixN hg, bdN (by omega), guN (by simp [h4])]
    have hcl : p_slices_Clone_Sint_int_o KK (S4 hh k) (gt hh (idx l.length k)) = some (nxl hh (idx l.length k)) := by
     unfold p_slices_Clone_Sint_int_o
     rw [guN (by omega), guN (by omega), apN (by simp; omega) (by omega), List.nil_append]
     congr 1
     unfold S4 nxl
     simp only [cs, ← List.map_take]
     congr 1
     rw [List.take_range, Nat.min_eq_left g8]
     refine List.map_congr_left fun h hm => ?_
     have hm : h < gt hh (idx l.length k) := by simpa using hm
     have := LF_nxi (hh := hh) (k := k) (h := h) (by rw [hlen]; exact hkn) (by rw [hlen]; exact hpos) (by rw [hlen]; exact hm)
     rw [this, hlen]
    rw [hcl]
    simp only [Option.bind_some]
    rw [bdN (by omega), gtN hget]
    simp only [Option.bind_some]
    refine fin _ ?_
    unfold S2
    have hidx : 2 * hh.length - 1 - idx l.length k = k := by
     rw [hlen]
     unfold idx
     have : k % l.length = k - l.length := by rw [Nat.mod_eq_sub_mod hkn, Nat.mod_eq_of_lt (by omega)]
     omega
    have := range_map_set (n := hh.length) (i := idx l.length k) (f := fun i => if 2 * hh.length - 1 - i < k then some (nxl hh i) else none) (g := fun i => if 2 * hh.length - 1 - i < k + 1 then some (nxl hh i) else none) (by omega) (fun j hj hne => by
     by_cases h1 : 2 * hh.length - 1 - j < k
     ·rw [if_pos h1, if_pos (by omega)]
     ·rw [if_neg h1, if_neg (by omega)])
    simp only [hidx, show k < k + 1 by omega, if_true] at this
    exact this
   ·rw [decide_eq_false (p := (k : Int) ≥ (l.length : Int)) (by omega), cond_false]
    simp only [Option.bind_some]
    refine fin _ ?_
    unfold S2
    refine List.map_congr_left fun j hj => ?_
    have hj : j < hh.length := by simpa using hj
    rw [if_neg (by omega), if_neg (by omega)])
  (j := 0) (n := KK) (s := ()) (Nat.zero_le _) (by show _ < 1000; omega) trivial
 exact this
theorem tower_Build {l : List Int} {hh : List Nat} (H : Hts l hh) (R : Rg l) (hl : l.length < 400) : p_tower_Build KK l (cs hh) = some (TB l hh) := by
 have hlen := H.len
 have hpos := H.pos
 unfold p_tower_Build
 rw [show ((l.length : Int) == 0) = false by simp only [beq_eq_false_iff_ne]; omega, cond_false, show (((cs hh).length : Int) != (l.length : Int)) = false by rw [cs_len, hlen]; simp, cond_false, ring_Right R]
 simp only [Option.bind_some, Bool.not_true, cond_false]
 rw [contains_no (by rw [cs_len]; omega) (fun x hx => by
  obtain ⟨h, hm, rfl⟩ := List.mem_map.1 hx
  have := H.rng h hm
  unfold p_tower_Build_1 p_tower_high
  rw [decide_eq_true (p := (h : Int) ≥ 1) (by omega), cond_true, decide_eq_true (p := (h : Int) ≤ 8) (by omega)]; rfl)]
 simp only [Option.bind_some, cond_false]
 have c1 : p_slices_Clone_Sint_int KK l = some l := by
  unfold p_slices_Clone_Sint_int
  rw [guN hpos, apN (by simp; omega) (by omega)]; rfl
 have c2 : p_slices_Clone_Sint_int KK (cs hh) = some (cs hh) := by
  unfold p_slices_Clone_Sint_int
  rw [guN (by rw [cs_len]; omega), apN (by rw [cs_len]; simp; omega) (by omega)]; rfl
 rw [c1, c2]
 simp only [Option.bind_some]
 rw [mkN (by omega) (by omega)]
 have e1 : List.replicate 8 (0 : Int) = S4 hh 0 := by unfold S4; rfl
 have e2 : List.replicate l.length (none : Option (List Int)) = S2 hh 0 := by
  unfold S2
  rw [hlen]
  refine List.ext_getElem? fun j => ?_
  by_cases hj : j < l.length
  ·simp [hj]
  ·simp [hj]
 rw [e1, e2, tower_L1 H hl]
 simp only [Option.bind_some]
 congr 1
 unfold TB
 congr 2
 unfold S2 nxs
 rw [List.map_map]
 refine List.map_congr_left fun j hj => ?_
 have hj : j < hh.length := by simpa using hj
 simp only [Function.comp]
 rw [if_pos (by omega)]; rfl
theorem TB_small {l : List Int} {hh : List Nat} (H : Hts l hh) : ∀ x ∈ nxs hh, x.length ≤ 8 := by
 intro x hx
 obtain ⟨i, hi, rfl⟩ := List.mem_map.1 hx
 have hi : i < hh.length := by simpa using hi
 have := H.gt (i := i) (by rw [← H.len]; exact hi)
 unfold nxl; rw [cs_len]; simp; omega
theorem r14_Same {l : List Int} {hh : List Nat} (H : Hts l hh) (hl : l.length < 400) : p_r14_Same KK (TB l hh).1 (TB l hh).1 = some true := by
 have hlen := H.len
 have hs := TB_small H
 unfold p_r14_Same TB
 simp only []
 rw [r01_Ints (by omega)]
 simp only [Option.bind_some, cond_true]
 rw [r01_Ints (by rw [cs_len]; omega)]
 simp only [Option.bind_some, cond_true]
 rw [r14_Lists (by unfold nxs; simp; omega) (fun x hx => by have := hs x hx; omega)]; rfl
theorem tower_Same {l : List Int} {hh : List Nat} (H : Hts l hh) (hl : l.length < 400) : p_tower_Same KK (TB l hh).1 (TB l hh).1 = some true := by
 have hlen := H.len
 have hs := TB_small H
 have hq : ∀ x ∈ nxs hh, p_slices_Equal_Sint_int KK x x = some true := fun x hx => slices_Equal (by have := hs x hx; omega)
 have hnl : (nxs hh).length = l.length := by unfold nxs; simp [hlen]
 have hE : p_slices_EqualFunc_SSint_SSint_Sint_Sint KK (nxs hh) (nxs hh) (fun x0 x1 => p_slices_Equal_Sint_int KK x0 x1) = some true := by
  have := loopL (σ := Unit) (ρ := Sum Unit Bool) (nxs hh) (fun n j _ => p_slices_EqualFunc_SSint_SSint_Sint_Sint_L1 KK (nxs hh) (nxs hh) (fun x0 x1 => p_slices_Equal_Sint_int KK x0 x1) n (j : Int)) (fun _ _ => some (.inl ())) (fun _ _ => True)
   (fun n s _ => by simp only [p_slices_EqualFunc_SSint_SSint_Sint_Sint_L1, ltF (Nat.le_refl _), cond_false])
   (fun n j s y rest _ hlt hx hr ih => by
    have ih := ih () trivial
    simp only [p_slices_EqualFunc_SSint_SSint_Sint_Sint_L1, ltT hlt, cond_true, ixN hx, hq y (List.mem_of_getElem? hx), Option.bind_some, Bool.not_true, cond_false]
    rw [w64s (by omega)]
    exact ih)
   (n := KK) (s := ()) (by show _ < 1000; omega) trivial
  unfold p_slices_EqualFunc_SSint_SSint_Sint_Sint
  rw [show (((nxs hh).length : Int) != ((nxs hh).length : Int)) = false by simp, cond_false, show (0 : Int) = ((0 : Nat) : Int) from rfl, this]; rfl
 unfold p_tower_Same TB
 simp only []
 rw [slices_Equal (by omega)]
 simp only [Option.bind_some, cond_true]
 rw [slices_Equal (by rw [cs_len]; omega)]
 simp only [Option.bind_some, cond_true, hE]
theorem r14_RightT {l : List Int} {hh : List Nat} (H : Hts l hh) (R : Rg l) (hl : l.length < 400) : p_r14_Right KK (TB l hh).1 = some true := by
 unfold p_r14_Right
 show ((p_r14_Build KK l (cs hh)).bind _) = _
 rw [r14_Build H R]
 simp only [Option.bind_some]
 rw [show ((TB l hh).2 == 0) = true from rfl, cond_true, r14_Same H hl]; rfl
theorem tower_RightT {l : List Int} {hh : List Nat} (H : Hts l hh) (R : Rg l) (hl : l.length < 400) : p_tower_Right KK (TB l hh).1 = some true := by
 unfold p_tower_Right
 show ((p_tower_Build KK l (cs hh)).bind _) = _
 rw [tower_Build H R hl]
 simp only [Option.bind_some]
 rw [show ((TB l hh).2 == 0) = true from rfl, cond_true, tower_Same H hl]; rfl
end Go.Ar.Mm
namespace Go.Ar.Mm
def Ps (w : List Nat) (k : Nat) : Nat := (w.take k).sum
theorem Ps_succ {w : List Nat} {k : Nat} (h : k < w.length) : Ps w (k + 1) = Ps w k + gt w k := by
 unfold Ps
 rw [List.take_add_one, gt_of h]; simp
theorem Ps_mono {w : List Nat} (k m : Nat) : Ps w k ≤ Ps w (k + m) := by
 induction m with
 | zero => exact Nat.le_refl _
 | succ m ih =>
  by_cases h : k + m < w.length
  ·rw [← Nat.add_assoc, Ps_succ h]; omega
  ·have : Ps w (k + (m + 1)) = Ps w (k + m) := by unfold Ps; rw [List.take_of_length_le (by omega), List.take_of_length_le (by omega)]
   omega
structure Sm (w : List Nat) (n : Nat) : Prop where
 len : w.length = n
 one : ∀ x ∈ w, x ≤ 1
 n1 : 1 ≤ n
 n4 : n < 400
theorem Sm.gt {w : List Nat} {n k : Nat} (h : Sm w n) (hk : k < n) : gt w k ≤ 1 := h.one _ (List.mem_of_getElem? (gt_of (by rw [h.len]; exact hk)))
theorem Sm.le {w : List Nat} {n : Nat} (h : Sm w n) (k : Nat) : Ps w k ≤ 400 := by
 have key : ∀ m, m ≤ n → Ps w m ≤ m := by
  intro m
  induction m with
  | zero => intro _; simp [Ps]
  | succ m ih =>
   intro hm
   rw [Ps_succ (by rw [h.len]; omega)]
   have := ih (by omega); have := h.gt (k := m) (by omega)
   omega
 have h4 := h.n4
 by_cases hk : k ≤ n
 ·have := key k hk; omega
 ·have : Ps w k = Ps w n := by unfold Ps; rw [List.take_of_length_le (by rw [h.len]; omega), List.take_of_length_le (by rw [h.len]; omega)]
  have := key n (Nat.le_refl _); omega
def vl (w : List Nat) (n i j : Nat) : Int := if j ≤ i then ((Ps w j : Nat) : Int) - ((Ps w i : Nat) : Int) + ((Ps w n : Nat) : Int) else ((Ps w j : Nat) : Int) - ((Ps w i : Nat) : Int)
def vll (w : List Nat) (hh : List Nat) (i : Nat) : List Int := (List.range (gt hh i)).map fun h => vl w hh.length i (nxi hh i h)
def SB (w : List Nat) (hh : List Nat) : List (List Int) × Int := ((List.range hh.length).map (vll w hh), 0)
def Cs (w : List Nat) (n i e : Nat) : Nat := if i + e ≤ n then Ps w (i + e) - Ps w i else Ps w n - Ps w i + Ps w (i + e - n)
theorem Cs_succ {w : List Nat} {n i e : Nat} (h : Sm w n) (hi : i < n) (he : e < n) : Cs w n i (e + 1) = Cs w n i e + gt w ((i + e) % n) := by
 unfold Cs
 have m1 := Ps_mono (w := w) i e
 have m2 := Ps_mono (w := w) i (n - i)
 rw [show i + (n - i) = n by omega] at m2
 by_cases h1 : i + e < n
 ·rw [if_pos (by omega), if_pos (by omega), Nat.mod_eq_of_lt h1, ← Nat.add_assoc, Ps_succ (by rw [h.len]; exact h1)]; omega
 ·have hm : (i + e) % n = i + e - n := by rw [Nat.mod_eq_sub_mod (by omega), Nat.mod_eq_of_lt (by omega)]
  rw [hm]
  by_cases h2 : i + e = n
  ·rw [if_neg (by omega), if_pos (by omega), h2, show i + (e + 1) - n = 0 + 1 by omega, Ps_succ (by rw [h.len]; omega), show n - n = 0 by omega]
   have : Ps w 0 = 0 := rfl
   omega
  ·rw [if_neg (by omega), if_neg (by omega), show i + (e + 1) - n = (i + e - n) + 1 by omega, Ps_succ (by rw [h.len]; omega)]; omega
theorem Cs_vl {w : List Nat} {n i j : Nat} (h : Sm w n) (hi : i < n) (hj : j < n) : ((Cs w n i (if i < j then j - i else j + n - i) : Nat) : Int) = vl w n i j := by
 unfold Cs vl
 have m2 := Ps_mono (w := w) i (n - i)
 rw [show i + (n - i) = n by omega] at m2
 by_cases h1 : i < j
 ·have m1 := Ps_mono (w := w) i (j - i)
  rw [show i + (j - i) = j by omega] at m1
  rw [if_pos h1, show i + (j - i) = j by omega, if_pos (by omega), if_neg (by omega)]; omega
 ·rw [if_neg h1, show i + (j + n - i) = j + n by omega, if_pos (show j ≤ i by omega)]
  by_cases h0 : j = 0
  ·subst h0
   rw [if_pos (by omega), Nat.zero_add]
   have : Ps w 0 = 0 := rfl
   omega
  ·rw [if_neg (by omega), show j + n - n = j by omega]; omega
theorem nxi_lt {hh : List Nat} {i h : Nat} (hi : i < hh.length) : nxi hh i h < hh.length := Nat.mod_lt _ (by omega)
theorem nxl_get {hh : List Nat} {i h : Nat} (hlt : h < gt hh i) : (nxl hh i)[h]? = some ((nxi hh i h : Nat) : Int) := by simp [nxl, cs, hlt]
theorem nxl_len (hh : List Nat) (i : Nat) : (nxl hh i).length = gt hh i := by simp [nxl, cs]
theorem nxs_get {hh : List Nat} {i : Nat} (hi : i < hh.length) : (nxs hh)[i]? = some (nxl hh i) := by simp [nxs, hi]
theorem r16_L4 {l : List Int} {hh w : List Nat} {i h : Nat} (H : Hts l hh) (W : Sm w l.length) (hi : i < l.length) (hlt : h < gt hh i) :
    ∀ m e fuel : Nat, (if i < nxi hh i h then nxi hh i h - i else nxi hh i h + l.length - i) - e = m → 1 ≤ e → e ≤ (if i < nxi hh i h then nxi hh i h - i else nxi hh i h + l.length - i) → m < fuel →
     p_r16_Build_L4 KK (TB l hh).1 (i : Int) (h : Int) (cs w) fuel ((Cs w l.length i e : Nat) : Int) (((i + e) % l.length : Nat) : Int) = some (vl w l.length i (nxi hh i h)) := by
 have hlen := H.len
 have hpos := H.pos
 have h4 := W.n4
 have hj := nxi_lt (hh := hh) (i := i) (h := h) (by rw [hlen]; exact hi)
 rw [hlen] at hj
 have hcv := Cs_vl W hi hj
 have gn := nxs_get (hh := hh) (i := i) (by rw [hlen]; exact hi)
 have gl := nxl_get hlt
 generalize hd : (if i < nxi hh i h then nxi hh i h - i else nxi hh i h + l.length - i) = d at *
 have hdn : 1 ≤ d ∧ d ≤ l.length ∧ (i + d) % l.length = nxi hh i h := by
  by_cases h1 : i < nxi hh i h
  ·rw [if_pos h1] at hd
   subst hd
   refine ⟨by omega, by omega, ?_⟩
   rw [show i + (nxi hh i h - i) = nxi hh i h by omega, Nat.mod_eq_of_lt hj]
  ·rw [if_neg h1] at hd
   subst hd
   refine ⟨by omega, by omega, ?_⟩
   rw [show i + (nxi hh i h + l.length - i) = nxi hh i h + l.length by omega, Nat.add_mod_right, Nat.mod_eq_of_lt hj]
 obtain ⟨d1, d2, d3⟩ := hdn
 generalize hj' : nxi hh i h = j at *
 intro m
 induction m with
 | zero =>
  intro e fuel hm h1 h2 hf
  obtain ⟨fuel, rfl⟩ : ∃ k, fuel = k + 1 := ⟨fuel - 1, by omega⟩
  have he : e = d := by omega
  subst he
  unfold p_r16_Build_L4
  rw [show (TB l hh).1.next = nxs hh from rfl, ixN gn, ixN gl, d3, show ((j : Int) != (j : Int)) = false by simp, cond_false, hcv]
 | succ m ih =>
  intro e fuel hm h1 h2 hf
  obtain ⟨fuel, rfl⟩ : ∃ k, fuel = k + 1 := ⟨fuel - 1, by omega⟩
  have hlt2 : (i + e) % l.length < l.length := Nat.mod_lt _ hpos
  have hne : (i + e) % l.length ≠ j := by
   intro hh2
   rw [← d3] at hh2
   by_cases a : i + e < l.length
   ·rw [Nat.mod_eq_of_lt a] at hh2
    by_cases b : i + d < l.length
    ·rw [Nat.mod_eq_of_lt b] at hh2; omega
    ·rw [Nat.mod_eq_sub_mod (by omega), Nat.mod_eq_of_lt (by omega)] at hh2; omega
   ·rw [Nat.mod_eq_sub_mod (by omega), Nat.mod_eq_of_lt (by omega)] at hh2
    rw [Nat.mod_eq_sub_mod (by omega), Nat.mod_eq_of_lt (by omega)] at hh2
    omega
  have hw := cs_get (c := w) (v := (i + e) % l.length) (by rw [W.len]; exact hlt2)
  have hs := Cs_succ W hi (e := e) (by omega)
  have b1 : Cs w l.length i e ≤ 800 := by
   have := W.le (i + e); have := W.le l.length; have := W.le (i + e - l.length)
   unfold Cs; split <;> omega
  have b2 := W.gt hlt2
  unfold p_r16_Build_L4
  rw [show (TB l hh).1.next = nxs hh from rfl, ixN gn, ixN gl, show ((((i + e) % l.length : Nat) : Int) != (j : Int)) = true by simp only [bne_iff_ne]; omega, cond_true, ixN hw, show (TB l hh).1.tokens = l from rfl, nzN (by omega)]
  have e1 : w64 ((((i + e) % l.length : Nat) : Int) + 1) = (((i + e) % l.length + 1 : Nat) : Int) := w64s (by omega)
  have e2 : ((i + e) % l.length + 1) % l.length = (i + (e + 1)) % l.length := by rw [← Nat.add_assoc, Nat.mod_add_mod]
  rw [e1, tmodN, e2, show w64 (((Cs w l.length i e : Nat) : Int) + ((gt w ((i + e) % l.length) : Nat) : Int)) = ((Cs w l.length i (e + 1) : Nat) : Int) by rw [hs, w64N] <;> omega]
  exact ih (e + 1) fuel (by omega) (by omega) (by omega) (by omega)
theorem r16_L3 {l : List Int} {hh w : List Nat} {i : Nat} (H : Hts l hh) (W : Sm w l.length) (hi : i < l.length) : p_r16_Build_L3 KK (TB l hh).1 (i : Int) (cs w) KK 0 [] = some (vll w hh i) := by
 have hlen := H.len
 have hpos := H.pos
 have h4 := W.n4
 obtain ⟨g1, g8⟩ := H.gt hi
 have gn := nxs_get (hh := hh) (i := i) (by rw [hlen]; exact hi)
 have hwi := cs_get (c := w) (v := i) (by rw [W.len]; exact hi)
 have := loopC (σ := List Int) (ρ := List Int) (gt hh i) (fun k j s => p_r16_Build_L3 KK (TB l hh).1 (i : Int) (cs w) k (j : Int) s) (fun j s => some (s ++ ((List.range (gt hh i)).drop j).map fun h => vl w hh.length i (nxi hh i h))) (fun j s => s.length = j)
  (fun k s _ => by
   simp only [p_r16_Build_L3]
   rw [show (TB l hh).1.next = nxs hh from rfl, ixN gn, nxl_len, ltF (Nat.le_refl _), cond_false, List.drop_eq_nil_of_le (by simp)]; simp)
  (fun k j s hs hj ih => by
   have hjl := nxi_lt (hh := hh) (i := i) (h := j) (by rw [hlen]; exact hi)
   rw [hlen] at hjl
   simp only [p_r16_Build_L3]
   rw [show (TB l hh).1.next = nxs hh from rfl, ixN gn, nxl_len, ltT hj, cond_true, ixN hwi, show (TB l hh).1.tokens = l from rfl, nzN (by omega)]
   have e1 : w64 ((i : Int) + 1) = ((i + 1 : Nat) : Int) := w64s (by omega)
   have c1 : Cs w l.length i 1 = gt w i := by
    have := Cs_succ W hi (e := 0) (by omega)
    rw [show i + 0 = i from rfl, Nat.mod_eq_of_lt hi] at this
    rw [this]
    have : Cs w l.length i 0 = 0 := by unfold Cs; rw [if_pos (by omega), Nat.add_zero]; omega
    omega
   have := r16_L4 H W hi hj _ 1 KK rfl (by omega) (by split <;> omega) (by show _ < 1000; split <;> omega)
   rw [c1] at this
   rw [e1, tmodN, this]
   simp only [Option.bind_some]
   rw [apN (by simp; omega) (by omega)]
   simp only [Option.bind_some]
   rw [w64s (by omega), ih _ (by simp [hs]), List.drop_eq_getElem_cons (i := j) (by simpa using hj)]
   simp [hlen])
  (j := 0) (n := KK) (s := []) (Nat.zero_le _) (by show _ < 1000; omega) rfl
 simpa [vll] using this
theorem r16_Build {l : List Int} {hh w : List Nat} (H : Hts l hh) (R : Rg l) (W : Sm w l.length) : p_r16_Build KK (TB l hh).1 (cs w) = some (SB w hh) := by
 have hlen := H.len
 have hpos := H.pos
 have h4 := W.n4
 have h1 := loopC (σ := Unit) (ρ := Sum Unit ((List (List Int)) × Int)) l.length (fun k j _ => p_r16_Build_L1 KK (TB l hh).1 (cs w) k (j : Int)) (fun _ _ => some (.inl ())) (fun _ _ => True)
  (fun k s _ => by
   simp only [p_r16_Build_L1]
   rw [show (TB l hh).1.tokens = l from rfl, ltF (Nat.le_refl _), cond_false])
  (fun k j s _ hj ih => by
   have hg := cs_get (c := w) (v := j) (by rw [W.len]; exact hj)
   have := W.gt hj
   simp only [p_r16_Build_L1]
   rw [show (TB l hh).1.tokens = l from rfl, ltT hj, cond_true, ixN hg]
   unfold p_r16_may
   rw [decide_eq_true (p := ((gt w j : Nat) : Int) ≥ -1073741824) (by omega), cond_true, decide_eq_true (p := ((gt w j : Nat) : Int) ≤ 1073741824) (by omega)]
   simp only [Option.bind_some, Bool.not_true, cond_false]
   rw [w64s (by omega)]
   exact ih () trivial)
  (j := 0) (n := KK) (s := ()) (Nat.zero_le _) (by show _ < 1000; omega) trivial
 have h2 := loopC (σ := List (List Int)) (ρ := List (List Int)) l.length (fun k j s => p_r16_Build_L2 KK (TB l hh).1 (cs w) k (j : Int) s) (fun j s => some (s ++ ((List.range l.length).drop j).map (vll w hh))) (fun j s => s.length = j)
  (fun k s _ => by
   simp only [p_r16_Build_L2]
   rw [show (TB l hh).1.tokens = l from rfl, ltF (Nat.le_refl _), cond_false, List.drop_eq_nil_of_le (by simp)]; simp)
  (fun k j s hs hj ih => by
   simp only [p_r16_Build_L2]
   rw [show (TB l hh).1.tokens = l from rfl, ltT hj, cond_true, r16_L3 H W hj]
   simp only [Option.bind_some]
   rw [apN (by simp; omega) (by omega)]
   simp only [Option.bind_some]
   rw [w64s (by omega), ih _ (by simp [hs]), List.drop_eq_getElem_cons (i := j) (by simpa using hj)]
   simp)
  (j := 0) (n := KK) (s := []) (Nat.zero_le _) (by show _ < 1000; omega) rfl
 unfold p_r16_Build
 rw [r14_RightT H R h4]
 simp only [Option.bind_some, Bool.not_true, cond_false]
 rw [show (TB l hh).1.tokens = l from rfl, show (((cs w).length : Int) != (l.length : Int)) = false by rw [cs_len, W.len]; simp, cond_false, show (0 : Int) = ((0 : Nat) : Int) from rfl, h1]
 simp only [Option.bind_some]
 rw [h2]
 simp [SB, hlen]
def pre (w : List Nat) (n k : Nat) : List Int := cs ((List.range (n + 1)).map fun q => if q ≤ k then Ps w q else 0)
theorem pre_get {w : List Nat} {n k q : Nat} (hq : q ≤ n) : (pre w n k)[q]? = some (((if q ≤ k then Ps w q else 0 : Nat)) : Int) := by
 simp [pre, cs, show q < n + 1 by omega]
theorem pre_len (w : List Nat) (n k : Nat) : (pre w n k).length = n + 1 := by simp [pre, cs]
theorem sum_L1 {w : List Nat} {n : Nat} (W : Sm w n) : p_sum_Build_L1 KK (cs w) KK 0 (List.replicate (n + 1) (0 : Int)) = some (pre w n n) := by
 have h4 := W.n4
 have h0 : List.replicate (n + 1) (0 : Int) = pre w n 0 := by
  refine List.ext_getElem? fun q => ?_
  by_cases hq : q ≤ n
  ·rw [pre_get hq]
   by_cases e : q = 0
   ·subst e; simp [Ps]
   ·simp [show q < n + 1 by omega, e]
  ·rw [List.getElem?_eq_none (by simp; omega), List.getElem?_eq_none (by rw [pre_len]; omega)]
 have := loopC (σ := List Int) (ρ := List Int) n (fun f j s => p_sum_Build_L1 KK (cs w) f (j : Int) s) (fun _ _ => some (pre w n n)) (fun j s => s = pre w n j)
  (fun f s hs => by
   simp only [p_sum_Build_L1]
   rw [cs_len, W.len, ltF (Nat.le_refl _), cond_false, hs])
  (fun f j s hs hj ih => by
   have hg := cs_get (c := w) (v := j) (by rw [W.len]; exact hj)
   have hb := W.gt hj
   have hp := W.le j
   subst hs
   have p1 := pre_get (w := w) (n := n) (k := j) (q := j) (by omega)
   have p2 := pre_get (w := w) (n := n) (k := j) (q := j + 1) (by omega)
   rw [if_pos (Nat.le_refl _)] at p1
   simp only [p_sum_Build_L1]
   rw [cs_len, W.len, ltT hj, cond_true, ixN hg, pre_len, bdN (by omega), gtN p1, w64s (by omega), bdN (by omega), gtN p2]
   refine ih _ ?_
   rw [show w64 (((Ps w j : Nat) : Int) + ((gt w j : Nat) : Int)) = ((Ps w (j + 1) : Nat) : Int) by rw [Ps_succ (by rw [W.len]; exact hj), w64N] <;> omega]
   unfold pre
   rw [cs_set]
   congr 1
   have := range_map_set (n := n + 1) (i := j + 1) (f := fun q => if q ≤ j then Ps w q else 0) (g := fun q => if q ≤ j + 1 then Ps w q else 0) (by omega) (fun q _ hne => by
    by_cases h1 : q ≤ j
    ·rw [if_pos h1, if_pos (by omega)]
    ·rw [if_neg h1, if_neg (by omega)])
   simp only [Nat.le_refl, if_true] at this
   exact this)
  (j := 0) (n := KK) (s := pre w n 0) (Nat.zero_le _) (by show _ < 1000; omega) rfl
 rw [h0]
 simpa using this
theorem sum_L3 {l : List Int} {hh w : List Nat} {i : Nat} {l3 : List (Option (List Int))} (H : Hts l hh) (W : Sm w l.length) (hi : i < l.length) :
    p_sum_Build_L3 KK (pre w l.length l.length) (i : Int) (TB l hh).1 l3 i KK (nxl hh i) ((nxl hh i).length : Int) 0 [] = some (l3.set i (some (vll w hh i))) := by
 have hlen := H.len
 have hpos := H.pos
 have h4 := W.n4
 obtain ⟨g1, g8⟩ := H.gt hi
 have hP : ∀ q, q ≤ l.length → (pre w l.length l.length)[q]? = some ((Ps w q : Nat) : Int) := fun q hq => by rw [pre_get hq, if_pos hq]
 have := loopC (σ := List Int) (ρ := List (Option (List Int))) (gt hh i) (fun f j s => p_sum_Build_L3 KK (pre w l.length l.length) (i : Int) (TB l hh).1 l3 i f (nxl hh i) ((nxl hh i).length : Int) (j : Int) s) (fun j s => some (l3.set i (some (s ++ ((List.range (gt hh i)).drop j).map fun h => vl w hh.length i (nxi hh i h))))) (fun j s => s.length = j)
  (fun f s _ => by
   simp only [p_sum_Build_L3]
   rw [nxl_len, ltF (Nat.le_refl _), cond_false, List.drop_eq_nil_of_le (by simp)]; simp)
  (fun f j s hs hj ih => by
   have hjl := nxi_lt (hh := hh) (i := i) (h := j) (by rw [hlen]; exact hi)
   rw [hlen] at hjl
   have b1 := W.le (nxi hh i j); have b2 := W.le i; have b3 := W.le l.length
   simp only [p_sum_Build_L3]
   rw [nxl_len, ltT hj, cond_true, ixN (nxl_get hj), pre_len, bdN (by omega), gtN (hP _ (by omega)), bdN (by omega), gtN (hP _ (by omega)), w64N (x := ((Ps w (nxi hh i j) : Nat) : Int) - ((Ps w i : Nat) : Int)) (by omega) (by omega)]
   have step : ((bif (decide (((nxi hh i j : Nat) : Int) ≤ (i : Int))) then (bdP (l.length + 1) (((TB l hh).1.tokens.length : Nat) : Int) fun i21 => gtP (pre w l.length l.length) i21 fun v22 => some (w64 (((Ps w (nxi hh i j) : Nat) : Int) - ((Ps w i : Nat) : Int) + v22))) else some (((Ps w (nxi hh i j) : Nat) : Int) - ((Ps w i : Nat) : Int))) : Option Int) = some (vl w l.length i (nxi hh i j)) := by
    unfold vl
    by_cases h1 : nxi hh i j ≤ i
    ·rw [decide_eq_true (p := ((nxi hh i j : Nat) : Int) ≤ (i : Int)) (by omega), cond_true, show (TB l hh).1.tokens = l from rfl, bdN (by omega), gtN (hP _ (by omega)), if_pos h1, w64N (by omega) (by omega)]
    ·rw [decide_eq_false (p := ((nxi hh i j : Nat) : Int) ≤ (i : Int)) (by omega), cond_false, if_neg h1]
   rw [step]
   simp only [Option.bind_some]
   rw [apN (by simp; omega) (by omega), w64s (by omega)]
   have := ih (s ++ [vl w l.length i (nxi hh i j)]) (by simp [hs])
   rw [nxl_len] at this
   rw [this, List.drop_eq_getElem_cons (i := j) (by simpa using hj)]
   simp [hlen])
  (j := 0) (n := KK) (s := []) (Nat.zero_le _) (by show _ < 1000; omega) rfl
 simpa [vll] using this
theorem sum_Build {l : List Int} {hh w : List Nat} (H : Hts l hh) (R : Rg l) (W : Sm w l.length) : p_sum_Build KK (TB l hh).1 (cs w) = some (SB w hh) := by
 have hlen := H.len
 have hpos := H.pos
 have h4 := W.n4
 have hnl : (nxs hh).length = l.length := by unfold nxs; simp [hlen]
 have h2 := loopC (σ := List (Option (List Int))) (ρ := List (Option (List Int))) l.length (fun f j s => p_sum_Build_L2 KK (TB l hh).1 (pre w l.length l.length) f (j : Int) s) (fun _ _ => some ((List.range l.length).map fun q => some (vll w hh q))) (fun j s => s = (List.range l.length).map fun q => if q < j then some (vll w hh q) else none)
  (fun f s hs => by
   simp only [p_sum_Build_L2]
   rw [show (TB l hh).1.next = nxs hh from rfl, hnl, ltF (Nat.le_refl _), cond_false, hs]
   congr 1
   refine List.map_congr_left fun q hq => ?_
   rw [if_pos (by simpa using hq)])
  (fun f j s hs hj ih => by
   have gn := nxs_get (hh := hh) (i := j) (by rw [hlen]; exact hj)
   have gs : s[j]? = some none := by rw [hs]; simp [hj]
   have hsl : s.length = l.length := by rw [hs]; simp
   simp only [p_sum_Build_L2]
   rw [show (TB l hh).1.next = nxs hh from rfl, hnl, ltT hj, cond_true, ixN gn, bdN (by omega), gtN gs, guN (show (none : Option (List Int)).isNone = true from rfl), sum_L3 H W hj]
   simp only [Option.bind_some]
   rw [w64s (by omega)]
   refine ih _ ?_
   rw [hs]
   have := range_map_set (n := l.length) (i := j) (f := fun q => if q < j then some (vll w hh q) else none) (g := fun q => if q < j + 1 then some (vll w hh q) else none) hj (fun q _ hne => by
    by_cases h1 : q < j
    ·rw [if_pos h1, if_pos (by omega)]
    ·rw [if_neg h1, if_neg (by omega)])
   simp only [show j < j + 1 by omega, if_true] at this
   exact this)
  (j := 0) (n := KK) (s := List.replicate l.length none) (Nat.zero_le _) (by show _ < 1000; omega) (by
   refine List.ext_getElem? fun j => ?_
   by_cases hj : j < l.length
   ·simp [hj]
   ·simp [hj])
 unfold p_sum_Build
 rw [show (TB l hh).1.tokens = l from rfl, show (((cs w).length : Int) != (l.length : Int)) = false by rw [cs_len, W.len]; simp, cond_false, tower_RightT H R h4]
 simp only [Option.bind_some, Bool.not_true, cond_false]
 rw [contains_no (by rw [cs_len, W.len]; omega) (fun x hx => by
  obtain ⟨y, hm, rfl⟩ := List.mem_map.1 hx
  have := W.one y hm
  unfold p_sum_odd
  rw [decide_eq_false (p := (y : Int) < -1073741824) (by omega), cond_false, decide_eq_false (p := (y : Int) > 1073741824) (by omega)])]
 simp only [Option.bind_some, cond_false]
 rw [w64s (by omega), mkN (by omega) (by omega), sum_L1 W]
 simp only [Option.bind_some]
 rw [mkN (by omega) (by omega), show (0 : Int) = ((0 : Nat) : Int) from rfl, h2]
 simp [SB, hlen]
def bw (bs : List Bool) : List Nat := bs.map fun b => if b then 1 else 0
theorem mark_eq : ∀ (bs : List Bool) (n : Nat) (i : Int) (l : List Int), p_pick_Mark_L1 KK bs n i l = p_r17_Mark_L1 KK bs n i l := by
 intro bs n
 induction n with
 | zero => intro i l; rfl
 | succ n ih => intro i l; simp only [p_pick_Mark_L1, p_r17_Mark_L1, ih]
theorem r17_L1 {bs : List Bool} (hl : bs.length < 400) : p_r17_Mark_L1 KK bs KK 0 (List.replicate bs.length (0 : Int)) = some (cs (bw bs)) := by
 have := loopC (σ := List Int) (ρ := List Int) bs.length (fun f j s => p_r17_Mark_L1 KK bs f (j : Int) s) (fun _ _ => some (cs (bw bs))) (fun j s => s = cs (bw (bs.take j)) ++ List.replicate (bs.length - j) (0 : Int))
  (fun f s hs => by
   simp only [p_r17_Mark_L1]
   rw [ltF (Nat.le_refl _), cond_false, hs]; simp)
  (fun f j s hs hj ih => by
   have hg : bs[j]? = some bs[j] := List.getElem?_eq_getElem hj
   have hbl : (cs (bw (bs.take j))).length = j := by simp [cs, bw]; omega
   obtain ⟨r, hr⟩ : ∃ r, bs.length - j = r + 1 := ⟨bs.length - j - 1, by omega⟩
   have hs' : s = cs (bw (bs.take j)) ++ 0 :: List.replicate (bs.length - (j + 1)) (0 : Int) := by
    rw [hs, hr, show bs.length - (j + 1) = r by omega]; rfl
   have hsl : s.length = bs.length := by rw [hs]; simp [hbl]; omega
   have hsg : s[j]? = some 0 := by rw [hs', List.getElem?_append_right (by omega)]; simp [hbl]
   have htk : cs (bw (bs.take (j + 1))) = cs (bw (bs.take j)) ++ [((if bs[j] then 1 else 0 : Nat) : Int)] := by
    rw [List.take_add_one, hg]
    simp only [cs, bw, List.map_append, Option.toList_some, List.map_cons, List.map_nil]
   simp only [p_r17_Mark_L1]
   rw [ltT hj, cond_true, ixN hg]
   cases hb : bs[j]
   ·rw [cond_false, w64s (by omega)]
    refine ih s ?_
    rw [htk, hb, hs']; simp
   ·rw [cond_true, bdN (by omega), gtN hsg, w64s (by omega)]
    refine ih _ ?_
    rw [htk, hb, hs', List.set_append_right _ _ (by omega), hbl]; simp)
  (j := 0) (n := KK) (s := List.replicate bs.length 0) (Nat.zero_le _) (by show _ < 1000; omega) (by simp [cs, bw])
 exact this
theorem sm_bw {bs : List Bool} {n : Nat} (hl : bs.length = n) (h1 : 1 ≤ n) (h4 : n < 400) : Sm (bw bs) n := ⟨by simp [bw, hl], by
 intro x hx
 obtain ⟨b, _, rfl⟩ := List.mem_map.1 hx
 cases b <;> simp, h1, h4⟩
theorem r17_Mark {l : List Int} {hh : List Nat} {bs : List Bool} (H : Hts l hh) (R : Rg l) (hl : l.length < 400) (hb : bs.length = l.length) : p_r17_Mark KK (TB l hh).1 bs = some (SB (bw bs) hh) := by
 unfold p_r17_Mark
 rw [mkN (by omega) (by omega), r17_L1 (by omega)]
 simp only [Option.bind_some]
 rw [r16_Build H R (sm_bw hb H.pos hl)]; rfl
theorem pick_Mark {l : List Int} {hh : List Nat} {bs : List Bool} (H : Hts l hh) (R : Rg l) (hl : l.length < 400) (hb : bs.length = l.length) : p_pick_Mark KK (TB l hh).1 bs = some (SB (bw bs) hh) := by
 unfold p_pick_Mark
 rw [mkN (by omega) (by omega), mark_eq, r17_L1 (by omega)]
 simp only [Option.bind_some]
 rw [sum_Build H R (sm_bw hb H.pos hl)]; rfl
end Go.Ar.Mm
namespace Go.Ar.Mm
open ArTour ArForest ArWalk ArLeaf ArConn
open ArTour.Tok
def outs (x : Ti) (a : Int) : Bool := !x.tree && (x.level == a)
def hits (a t : Int) (x : Ti) : Bool := outs x a && (x.u == t || x.v == t)
def rows (m : Mp Int (List Ed)) (t : Int) : Nat := ((m.get? t).getD []).length
def addM (m : Mp Int (List Ed)) (k : Int) (e : Ed) : Mp Int (List Ed) := m.set k (((m.get? k).getD []) ++ [e])
theorem rows_add (m : Mp Int (List Ed)) (k t : Int) (e : Ed) : rows (addM m k e) t = rows m t + (if t = k then 1 else 0) := by
 unfold rows addM
 rw [get_set]
 by_cases h : t = k
 ·subst h; simp
 ·rw [if_neg h, if_neg h]; simp
theorem seen_L3 {u v : Int} {lv : Int} {tr : Bool} {m : Mp Int (List Ed)} (hb : ∀ t, rows m t ≤ 900) : p_seek_seen_L3 KK KK [u, v] 0 u v lv tr m = some (addM (addM m u ⟨u, v⟩) v ⟨u, v⟩) := by
 have step : ∀ (f : Nat) (i : Nat) (k : Int) (m : Mp Int (List Ed)), i < 2 → [u, v][i]? = some k → (∀ t, rows m t ≤ 1000) → p_seek_seen_L3 KK (f + 1) [u, v] (i : Int) u v lv tr m = p_seek_seen_L3 KK f [u, v] ((i + 1 : Nat) : Int) u v lv tr (addM m k ⟨u, v⟩) := by
  intro f i k m hi hk hr
  conv => lhs; unfold p_seek_seen_L3
  rw [decide_eq_true (p := (i : Int) < 2) (by omega), cond_true, bdN hi, gtN hk]
  have := hr k
  unfold rowP
  unfold rows at this
  cases hg : m.get? k with
  | none =>
   simp only
   rw [apN (by simp) (by omega), w64s (by omega)]
   unfold addM; rw [hg]; rfl
  | some r =>
   simp only
   rw [hg] at this
   simp only [Option.getD_some] at this
   rw [apN (by simp; omega) (by omega), w64s (by omega)]
   unfold addM; rw [hg]; rfl
 have s1 := step 999 0 u m (by omega) rfl (fun t => by have := hb t; omega)
 have s2 := step 998 1 v (addM m u ⟨u, v⟩) (by omega) rfl (fun t => by rw [rows_add]; have := hb t; split <;> omega)
 rw [show (0 : Int) = ((0 : Nat) : Int) from rfl, show p_seek_seen_L3 KK KK [u, v] ((0 : Nat) : Int) u v lv tr m = p_seek_seen_L3 KK (999 + 1) [u, v] ((0 : Nat) : Int) u v lv tr m from rfl, s1, show p_seek_seen_L3 KK 999 = p_seek_seen_L3 KK (998 + 1) from rfl, s2]
 rfl
theorem seen_L2 {g : Gr} {a : Int} (hl : g.ties.length ≤ 30) : ∃ m, p_seek_seen_L2 KK g a KK 0 (Mp.empty : Mp Int (List Ed)) = some m ∧ ∀ t, (0 < rows m t ↔ g.ties.any (hits a t) = true) := by
 have key : ∀ (rest : List Ti) (j fuel : Nat) (m : Mp Int (List Ed)), g.ties.drop j = rest → j + rest.length = g.ties.length → rest.length < fuel → (∀ t, rows m t ≤ 2 * j) → (∀ t, (0 < rows m t ↔ (g.ties.take j).any (hits a t) = true)) →
     ∃ m', p_seek_seen_L2 KK g a fuel (j : Int) m = some m' ∧ ∀ t, (0 < rows m' t ↔ g.ties.any (hits a t) = true) := by
  intro rest
  induction rest with
  | nil =>
   intro j fuel m hd hj hf hb hs
   obtain ⟨fuel, rfl⟩ : ∃ k, fuel = k + 1 := ⟨fuel - 1, by simp at hf; omega⟩
   simp at hj
   unfold p_seek_seen_L2
   rw [ltF (by omega), cond_false]
   refine ⟨m, rfl, fun t => ?_⟩
   have := hs t
   rwa [List.take_of_length_le (by omega)] at this
  | cons x rest ih =>
   intro j fuel m hd hj hf hb hs
   obtain ⟨fuel, rfl⟩ : ∃ k, fuel = k + 1 := ⟨fuel - 1, by simp at hf; omega⟩
   simp only [List.length_cons] at hj hf
   have hlt : j < g.ties.length := by omega
   have hdr := List.drop_eq_getElem_cons hlt
   rw [hd] at hdr
   simp only [List.cons.injEq] at hdr
   have hx : g.ties[j]? = some x := by rw [List.getElem?_eq_getElem hlt, hdr.1]
   have htk : ∀ t, (g.ties.take (j + 1)).any (hits a t) = ((g.ties.take j).any (hits a t) || hits a t x) := by
    intro t; rw [List.take_add_one, hx]; simp
   unfold p_seek_seen_L2
   rw [ltT hlt, cond_true, ixN hx]
   have skip : outs x a = false → ∃ m', p_seek_seen_L2 KK g a fuel (w64 ((j : Int) + 1)) m = some m' ∧ ∀ t, (0 < rows m' t ↔ g.ties.any (hits a t) = true) := by
    intro ho
    rw [w64s (by omega)]
    refine ih (j + 1) fuel m hdr.2.symm (by omega) (by omega) (fun t => by have := hb t; omega) fun t => ?_
    rw [htk, hs t]; simp [hits, ho]
   cases htr : x.tree
   ·rw [cond_false]
    by_cases hlv : x.level = a
    ·rw [show (x.level != a) = false by simp [hlv], cond_false, seen_L3 (fun t => by have := hb t; omega)]
     simp only [Option.bind_some]
     rw [w64s (by omega)]
     refine ih (j + 1) fuel _ hdr.2.symm (by omega) (by omega) (fun t => ?_) fun t => ?_
     ·rw [rows_add, rows_add]; have := hb t; split <;> split <;> omega
     ·rw [htk, rows_add, rows_add]
      have ho : outs x a = true := by simp [outs, htr, hlv]
      have hh : hits a t x = (x.u == t || x.v == t) := by simp [hits, ho]
      rw [hh, Bool.or_eq_true, ← hs t]
      simp only [Bool.or_eq_true, beq_iff_eq]
      constructor
      ·intro h
       by_cases h1 : t = x.u
       ·exact .inr (.inl h1.symm)
       ·by_cases h2 : t = x.v
        ·exact .inr (.inr h2.symm)
        ·rw [if_neg h1, if_neg h2] at h; exact .inl (by omega)
      ·rintro (h | h | h)
       ·split <;> split <;> omega
       ·rw [if_pos h.symm]; split <;> omega
       ·rw [if_pos h.symm]; split <;> omega
    ·rw [show (x.level != a) = true by simp [hlv], cond_true]
     simp only [Option.bind_some]
     exact skip (by simp [outs, hlv])
   ·rw [cond_true]
    simp only [Option.bind_some]
    exact skip (by simp [outs, htr])
 have e0 : ∀ t, rows (Mp.empty : Mp Int (List Ed)) t = 0 := by intro t; simp [rows, Mp.get?, Mp.empty]
 exact key g.ties 0 KK Mp.empty rfl (by simp) (by show _ < 1000; omega) (fun t => by rw [e0]; omega) (fun t => by rw [e0]; simp)
theorem seen_L1 {l : List Int} (hl : l.length < 900) : ∃ m, p_seek_seen_L1 KK KK l (l.length : Int) 0 (Mp.empty : Mp Int Int) = some (l, m) := by
 have := loopL (σ := Mp Int Int) (ρ := List Int × Mp Int Int) l (fun k j m => p_seek_seen_L1 KK k l (l.length : Int) (j : Int) m) (fun r m => some (l, r.foldl (fun m x => m.set x 1) m)) (fun _ _ => True)
     (fun k s _ => by simp only [p_seek_seen_L1, ltF (Nat.le_refl _), cond_false]; rfl)
     (fun k j s y rest _ hlt hx hr ih => by
      have ih := ih (s.set y 1) trivial
      simp only [p_seek_seen_L1, ltT hlt, cond_true, ixN hx]
      rw [w64s (by omega), ih]; rfl)
     (n := KK) (s := Mp.empty) (by show _ < 1000; omega) trivial
 exact ⟨_, this⟩
theorem r29_marked {g : Gr} {a t : Int} (hl : g.ties.length ≤ 30) : p_r29_marked KK g t a = some (g.ties.any (hits a t)) := by
 have := loopL (σ := Unit) (ρ := Sum Unit Bool) g.ties (fun k j _ => p_r29_marked_L1 KK g a t k (j : Int)) (fun r _ => if r.any (hits a t) then some (.inr true) else some (.inl ())) (fun _ _ => True)
     (fun k s _ => by simp only [p_r29_marked_L1, ltF (Nat.le_refl _), cond_false]; rfl)
     (fun k j s x rest _ hlt hx hr ih => by
      have ih := ih () trivial
      have ho : p_r29_outside KK x a = some (outs x a) := by
       unfold p_r29_outside outs
       cases x.tree <;> rfl
      simp only [p_r29_marked_L1, ltT hlt, cond_true, ixN hx, ho, Option.bind_some, List.any_cons]
      cases hox : outs x a
      ·rw [cond_false, w64s (by omega), ih]; simp [hits, hox]
      ·rw [cond_true]
       by_cases h1 : x.u = t
       ·rw [show (x.u == t) = true by simp [h1], cond_true]; simp [hits, hox, h1]
       ·rw [show (x.u == t) = false by simp [h1], cond_false]
        by_cases h2 : x.v = t
        ·rw [show (x.v == t) = true by simp [h2], cond_true]; simp [hits, hox, h2]
        ·rw [show (x.v == t) = false by simp [h2], cond_false, w64s (by omega), ih]; simp [hits, hox, h1, h2])
     (n := KK) (s := ()) (by show _ < 1000; omega) trivial
 unfold p_r29_marked
 rw [show (0 : Int) = ((0 : Nat) : Int) from rfl, this]
 cases g.ties.any (hits a t) <;> rfl
def mks (g : Gr) (a : Int) (l : List Int) : List Bool := l.map fun t => decide (t < g.n) && g.ties.any (hits a t)
theorem seek_L1 {g : Gr} {a : Int} {l : List Int} {tr : Seek_tree_} {x y : List Int} {z : List (List Int)} (hl : l.length < 900) (hn : tr.n = g.n) (ho : ∀ t, (0 < rows tr.outside t ↔ g.ties.any (hits a t) = true)) :
    p_seek_Tower_L1 KK KK tr l (l.length : Int) 0 x y z [] = some (x, y, z, mks g a l) := by
 have := loopL (σ := List Bool) (ρ := List Int × List Int × List (List Int) × List Bool) l (fun k j s => p_seek_Tower_L1 KK k tr l (l.length : Int) (j : Int) x y z s) (fun r s => some (x, y, z, s ++ mks g a r)) (fun j s => s.length = j)
     (fun k s _ => by simp only [p_seek_Tower_L1, ltF (Nat.le_refl _), cond_false]; simp [mks])
     (fun k j s t rest hs hlt hx hr ih => by
      have hm : p_seek_tree_marked KK tr t = some (decide (t < g.n) && g.ties.any (hits a t)) := by
       unfold p_seek_tree_marked
       rw [hn]
       by_cases h : t < g.n
       ·rw [decide_eq_true h, cond_true, Bool.true_and]
        congr 1
        have := ho t
        unfold rows at this
        rw [Bool.eq_iff_iff, ← this]; simp
       ·rw [decide_eq_false h, cond_false, Bool.false_and]
      simp only [p_seek_Tower_L1, ltT hlt, cond_true, ixN hx, Option.bind_some, hm]
      rw [apN (by simp; omega) (by omega), w64s (by omega), ih _ (by simp [hs])]
      simp [mks])
     (n := KK) (s := []) (by show _ < 1000; omega) rfl
 simpa using this
theorem r29_L1 {g : Gr} {a : Int} {l : List Int} {x y : List Int} {z : List (List Int)} (hl : l.length < 900) (hg : g.ties.length ≤ 30) :
    p_r29_Tower_L1 KK g a KK l 0 x y z [] = some (x, y, z, mks g a l) := by
 have := loopL (σ := List Bool) (ρ := List Int × List Int × List (List Int) × List Bool) l (fun k j s => p_r29_Tower_L1 KK g a k l (j : Int) x y z s) (fun r s => some (x, y, z, s ++ mks g a r)) (fun j s => s.length = j)
     (fun k s _ => by simp only [p_r29_Tower_L1, ltF (Nat.le_refl _), cond_false]; simp [mks])
     (fun k j s t rest hs hlt hx hr ih => by
      simp only [p_r29_Tower_L1, ltT hlt, cond_true, ixN hx]
      by_cases h : t < g.n
      ·rw [decide_eq_true h, cond_true, r29_marked hg]
       simp only [Option.bind_some]
       rw [apN (by simp; omega) (by omega), w64s (by omega), ih _ (by simp [hs])]
       simp [mks, h]
      ·rw [decide_eq_false h, cond_false, apN (by simp; omega) (by omega), w64s (by omega), ih _ (by simp [hs])]
       simp [mks, h])
     (n := KK) (s := []) (by show _ < 1000; omega) rfl
 simpa using this
theorem SB_small {l : List Int} {hh w : List Nat} (H : Hts l hh) (hl : l.length < 400) : p_r14_Lists KK (SB w hh).1 (SB w hh).1 = some true := by
 have hlen := H.len
 refine r14_Lists (by simp [SB]; omega) fun x hx => ?_
 simp only [SB] at hx
 obtain ⟨i, hi, rfl⟩ := List.mem_map.1 hx
 have hi : i < hh.length := by simpa using hi
 have := H.gt (i := i) (by omega)
 simp [vll]; omega
theorem towers {g : Gr} {v a : Int} {sc : List Int} (hn : g.n ≤ 12) (hl : g.ties.length ≤ 30) (hs : ∀ x ∈ sc, 0 ≤ x ∧ x < 4294967296) :
    ∃ r, p_seek_Tower KK g v a sc = some r ∧ p_r29_Tower KK g v a sc = some r ∧ p_r14_Same KK r.1 r.1 = some true ∧ p_r14_Lists KK r.2.1 r.2.1 = some true := by
 have nul : ∀ e : Int, e ≠ 0 → p_seek_seen KK g v a = some (none, e) → p_r29_asked KK g v = some e → ∃ r, p_seek_Tower KK g v a sc = some r ∧ p_r29_Tower KK g v a sc = some r ∧ p_r14_Same KK r.1 r.1 = some true ∧ p_r14_Lists KK r.2.1 r.2.1 = some true := by
  intro e he h1 h2
  refine ⟨(⟨[], [], []⟩, [], e), ?_, ?_, ?_, ?_⟩
  ·unfold p_seek_Tower
   rw [h1]
   simp only [Option.bind_some]
   rw [show (e != 0) = true by simpa using he, cond_true]
  ·unfold p_r29_Tower
   rw [h2]
   simp only [Option.bind_some]
   rw [show (e != 0) = true by simpa using he, cond_true]
  ·unfold p_r14_Same
   simp only []
   rw [r01_Ints (by simp)]
   simp only [Option.bind_some, cond_true]
   rw [r14_Lists (by simp) (by simp)]; rfl
  ·exact r14_Lists (by simp) (by simp)
 by_cases h1 : 1 ≤ g.n
 ·obtain ⟨n, hg⟩ : ∃ n : Nat, g.n = (n : Int) := ⟨g.n.toNat, by omega⟩
  have hn1 : 1 ≤ n := by omega
  have hn12 : n ≤ 12 := by omega
  obtain ⟨top, t1, t2⟩ := top_of hn1 hn12
  have hLR := level_Right hg hn1 hn12 hl t1
  have hRR := r21_Right hg hn1 hn12 hl t2
  have hLF := level_Forest (a := a) hg hn1 hn12 hl t1
  have hRF := r21_Forest (a := a) hg hn1 hn12 hl t2
  cases hr : rightB g n top
  ·rw [hr] at hLF hRR
   refine nul 1 (by omega) ?_ ?_
   ·unfold p_seek_seen
    rw [hLF]; rfl
   ·unfold p_r29_asked
    rw [hRR]; rfl
  ·rw [hr] at hLF hRR hRF
   simp only [if_true] at hLF hRF
   by_cases hv0 : v < 0
   ·refine nul 10 (by omega) ?_ ?_
    ·unfold p_seek_seen
     rw [hLF]
     simp only [Option.bind_some]
     rw [show ((0 : Int) != 0) = false from rfl, cond_false, decide_eq_true hv0, cond_true]
    ·unfold p_r29_asked
     rw [hRR]
     simp only [Option.bind_some, Bool.not_true, cond_false]
     rw [decide_eq_true hv0, cond_true]
   ·by_cases hvn : v ≥ g.n
    ·refine nul 10 (by omega) ?_ ?_
     ·unfold p_seek_seen
      rw [hLF]
      simp only [Option.bind_some]
      rw [show ((0 : Int) != 0) = false from rfl, cond_false, decide_eq_false hv0, cond_false, decide_eq_true hvn, cond_true]
     ·unfold p_r29_asked
      rw [hRR]
      simp only [Option.bind_some, Bool.not_true, cond_false]
      rw [decide_eq_false hv0, cond_false, decide_eq_true hvn, cond_true]
    ·
     obtain ⟨w, rfl⟩ : ∃ w : Nat, v = (w : Int) := ⟨v.toNat, by omega⟩
     have hw : w < n := by omega
     have hc := okL_chk (show okL top n none g.ties = true by unfold rightB at hr; simp at hr; exact hr.1)
     have hwf := of_wf n (esAt a g.ties) (esAt_lt hc a)
     generalize ArForest.of n (esAt a g.ties) = f at hLF hRF hwf
     obtain ⟨hp1, hp2⟩ := place_lt hwf hw
     have hfg : f[place f w]? = some (f[place f w]) := List.getElem?_eq_getElem hp1
     have hgood := hwf.good _ (List.getElem_mem hp1)
     generalize f[place f w] = rg at hfg hgood
     have hge : (ef n f)[place f w]? = some (er n rg) := by simp [ef, hfg]
     have hR := good_rg (by omega) hgood
     have hgl := good_len hgood
     have hel := er_len (n := n) rg
     generalize er n rg = l at hge hR hel
     have hll : l.length < 400 := by omega
     have hTO : p_tour_Of KK ⟨n, ef n f⟩ (w : Int) = some ((place f w : Nat) : Int) := by
      unfold p_tour_Of
      simp only []
      rw [tour_in hn1 (by omega) hw]
      simp only [Option.bind_some, Bool.not_true, cond_false]
      rw [tour_Right hn1 (by omega) hwf]
      simp only [Option.bind_some, Bool.not_true, cond_false]
      rw [tour_place (by omega) hwf hw]; rfl
     have hRO : p_r18_Of KK ⟨n, ef n f⟩ (w : Int) = some ((place f w : Nat) : Int) := by
      unfold p_r18_Of
      rw [r18_Right hn1 (by omega) hwf]
      simp only [Option.bind_some, Bool.not_true, cond_false]
      rw [r18_in hn1 (by omega) hw]
      simp only [Option.bind_some, Bool.not_true, cond_false]
      rw [r18_place (by omega) hwf hw]; rfl
     obtain ⟨m1, hm1⟩ := seen_L1 (l := l) (by omega)
     obtain ⟨m2, hm2, hm3⟩ := seen_L2 (g := g) (a := a) hl
     have hseen : p_seek_seen KK g (w : Int) a = some (some ⟨g.n, l, m1, m2⟩, 0) := by
      unfold p_seek_seen
      rw [hLF]
      simp only [Option.bind_some]
      rw [show ((0 : Int) != 0) = false from rfl, cond_false, decide_eq_false hv0, cond_false, decide_eq_false hvn, cond_false, hTO]
      simp only [Option.bind_some]
      rw [ixN hge, hm1]
      simp only [Option.bind_some]
      rw [hm2]; rfl
     have hask : p_r29_asked KK g (w : Int) = some 0 := by
      unfold p_r29_asked
      rw [hRR]
      simp only [Option.bind_some, Bool.not_true, cond_false]
      rw [decide_eq_false hv0, cond_false, decide_eq_false hvn, cond_false]
     have htour : p_r29_Tour KK g (w : Int) a = some l := by
      unfold p_r29_Tour
      rw [hRF]
      simp only [Option.bind_some]
      rw [hRO]
      simp only [Option.bind_some]
      rw [decide_eq_false (p := ((place f w : Nat) : Int) < 0) (by omega), cond_false, ixN hge]
     obtain ⟨hh, q1, q2, q3, q4⟩ := heights_eq (l := l) (sc := sc) (by omega) (fun x hx => (hR.rng x hx).1) hs
     have H : Hts l hh := ⟨q1, q2, by omega⟩
     have hml : (mks g a l).length = l.length := by simp [mks]
     refine ⟨((TB l hh).1, (SB (bw (mks g a l)) hh).1, (SB (bw (mks g a l)) hh).2), ?_, ?_, r14_Same H hll, SB_small H hll⟩
     ·unfold p_seek_Tower
      rw [hseen]
      simp only [Option.bind_some]
      rw [show ((0 : Int) != 0) = false from rfl, cond_false, q3]
      simp only [Option.bind_some]
      rw [tower_Build H hR hll]
      simp only [Option.bind_some]
      rw [seek_L1 (g := g) (a := a) (tr := ⟨g.n, l, m1, m2⟩) (by omega) rfl hm3]
      simp only [Option.bind_some]
      rw [show (Tw.mk (TB l hh).1.tokens (TB l hh).1.heights (TB l hh).1.next) = (TB l hh).1 from rfl, pick_Mark H hR hll hml]; rfl
     ·unfold p_r29_Tower
      rw [hask]
      simp only [Option.bind_some]
      rw [show ((0 : Int) != 0) = false from rfl, cond_false, htour]
      simp only [Option.bind_some]
      rw [q4]
      simp only [Option.bind_some]
      rw [r14_Build H hR]
      simp only [Option.bind_some]
      rw [r29_L1 (by omega) hl]
      simp only [Option.bind_some]
      rw [show (Tw.mk (TB l hh).1.tokens (TB l hh).1.heights (TB l hh).1.next) = (TB l hh).1 from rfl, r17_Mark H hR hll hml]; rfl
 ·refine nul 1 (by omega) ?_ ?_
  ·unfold p_seek_seen p_level_Forest p_level_Right p_level_sized
   rw [decide_eq_false (p := g.n ≥ 1) (by omega)]; rfl
  ·unfold p_r29_asked p_r21_Right
   rw [decide_eq_true (p := g.n < 1) (by omega)]; rfl
end Go.Ar.Mm
namespace Go.Ar.Mm
theorem alive_ok : p_law29_alive KK = some true := by kernel_rfl
theorem law29_SeekTowers {g : Gr} {two sc : List Int} (h2 : two.length = 2) (hs : ∀ x ∈ sc, 0 ≤ x ∧ x < 4294967296) : p_law29_SeekTowers KK g two sc = some true := by
 obtain ⟨v, a, rfl⟩ : ∃ v a, two = [v, a] := by
  match two, h2 with
  | [v, a], _ => exact ⟨v, a, rfl⟩
 have hgr : p_law29_great KK g = some (decide ((g.ties.length : Int) > 30) || decide (g.n > 12)) := by
  unfold p_law29_great
  cases decide ((g.ties.length : Int) > 30) <;> rfl
 unfold p_law29_SeekTowers
 rw [alive_ok]
 simp only [Option.bind_some, Bool.not_true, cond_false]
 rw [hgr]
 simp only [Option.bind_some]
 cases hb : (decide ((g.ties.length : Int) > 30) || decide (g.n > 12))
 ·simp only [Bool.or_eq_false_iff, decide_eq_false_iff_not] at hb
  obtain ⟨r, r1, r2, r3, r4⟩ := towers (g := g) (v := v) (a := a) (sc := sc) (by omega) (by omega) hs
  have b0 : ∀ {β : Type} (k : Nat → Option β), bdP 2 0 k = k 0 := fun k => bdN (j := 0) (by omega)
  have b1 : ∀ {β : Type} (k : Nat → Option β), bdP 2 1 k = k 1 := fun k => bdN (j := 1) (by omega)
  rw [cond_false]
  simp only [b0, b1]
  simp only [gtN (show [v, a][0]? = some v from rfl), gtN (show [v, a][1]? = some a from rfl), r1, r2, Option.bind_some, r3, r4, cond_true]
  simp
 ·rw [cond_true]
end Go.Ar.Mm
namespace Go.Ar
open Go.RowKit
theorem len2 {α : Type} {l : List α} (h : l.length = 2) : ∃ a b, l = [a, b] := by
 match l, h with
 | [a, b], _ => exact ⟨a, b, rfl⟩
theorem len4 {α : Type} {l : List α} (h : l.length = 4) : ∃ a b c d, l = [a, b, c, d] := by
 match l, h with
 | [a, b, c, d], _ => exact ⟨a, b, c, d, rfl⟩
theorem c3 : PP.cellsOf 3 = 1 := by kernel_rfl
theorem c4 : PP.cellsOf 4 = 1 := by kernel_rfl
theorem c22 : PP.cellsOf 22 = 1 := by kernel_rfl
theorem c24 : PP.cellsOf 24 = 2 := by kernel_rfl
theorem c25 : PP.cellsOf 25 = 2 := by kernel_rfl
theorem c45 : PP.cellsOf 45 = 4 := by kernel_rfl
theorem c54 : PP.cellsOf 54 = 1 := by kernel_rfl
theorem rd_Ti : RD PP 45 4 TiA (fun _ => True) := by
 intro H enc W n cs x h
 obtain ⟨y0, y1, y2, y3, m, rfl, hl, h0, h1, h2, h3⟩ := Go.Joins.trod_struct4 Go.Proofs.Tryz.underlying45 h
 rw [c45] at hl
 obtain ⟨c0, c1, c2, c3', rfl⟩ := len4 hl
 ·skip
  simp only [c3, c4, List.drop_zero, List.drop_succ_cons, List.take_succ_cons, List.take_zero] at h0 h1 h2 h3
  obtain ⟨u, e0, _, _⟩ := DataW.trod_int Go.Proofs.Tryz.underlying3 h0
  obtain ⟨v, e1, _, _⟩ := DataW.trod_int Go.Proofs.Tryz.underlying3 h1
  obtain ⟨l, e2, _, _⟩ := DataW.trod_int Go.Proofs.Tryz.underlying3 h2
  obtain ⟨b, e3, _⟩ := DataW.trod_bool Go.Proofs.Tryz.underlying4 h3
  cases e0; cases e1; cases e2; cases e3
  refine ⟨⟨u, v, l, b⟩, trivial, rfl, by simp [one, Value.oneCell'], .agg _ _ rfl (by simp [one, Value.oneCell']) (by simp [flat]) fun i x hx c hc => ?_⟩
  match i with
  | 0 => simp at hx hc; subst hx; subst hc; exact .v _ rfl
  | 1 => simp at hx hc; subst hx; subst hc; exact .v _ rfl
  | 2 => simp at hx hc; subst hx; subst hc; exact .v _ rfl
  | 3 => simp at hx hc; subst hx; subst hc; exact .v _ rfl
  | i + 4 => simp at hx
theorem rd_Ties : RD PP 22 1 (SL 4 TiA) (fun _ => True) := by
 intro H enc W n cs x h
 obtain ⟨l, _, h1⟩ := rd_slice Go.Proofs.Tryz.underlying22 c45 (by omega) rd_Ti H enc W n cs x h
 exact ⟨l, trivial, h1⟩
theorem rd_Gr : RD PP 24 2 GrA (fun _ => True) := by
 intro H enc W n cs x h
 obtain ⟨y0, y1, m, rfl, hl, h0, h1⟩ := Go.ChangeShapes.trod_struct2 Go.Proofs.Tryz.underlying24 h
 rw [c24] at hl
 obtain ⟨c0, c1, rfl⟩ := len2 hl
 ·skip
  simp only [c3, c22, List.drop_zero, List.drop_succ_cons, List.take_succ_cons, List.take_zero] at h0 h1
  obtain ⟨u, e0, _, _⟩ := DataW.trod_int Go.Proofs.Tryz.underlying3 h0
  cases e0
  obtain ⟨l, _, _, o1, v1⟩ := rd_Ties H enc W m _ _ h1
  refine ⟨⟨u, l⟩, trivial, rfl, ?_, .agg _ _ rfl ?_ (by simp [flat]) fun i x hx c hc => ?_⟩
  ·intro c hc
   simp only [List.mem_cons, List.not_mem_nil, or_false] at hc
   rcases hc with rfl | rfl
   ·rfl
   ·exact o1 _ (by simp)
  ·intro c hc
   simp only [List.mem_cons, List.not_mem_nil, or_false] at hc
   rcases hc with rfl | rfl
   ·rfl
   ·exact o1 _ (by simp)
  ·match i with
   | 0 => simp at hx hc; subst hx; subst hc; exact .v _ rfl
   | 1 => simp at hx hc; subst hx; subst hc; exact v1
   | i + 2 => simp at hx
theorem rd_Script : RD PP 26 1 (SL 1 (J .u32)) (fun l => ∀ x ∈ l, 0 ≤ x ∧ x < 4294967296) := by
 intro H enc W n cs x h
 obtain ⟨l, h0, h1⟩ := rd_slice Go.Proofs.Tryz.underlying26 c54 (by omega) (rd_int Go.Proofs.Tryz.underlying54) H enc W n cs x h
 refine ⟨l, fun x hx => ?_, h1⟩
 have := h0.1 x hx
 simp [Lit.wf, IntKind.min, IntKind.max, IntKind.signed, IntKind.bits] at this
 omega
theorem rd_Two : RD PP 25 2 (AR I) (fun l => l.length = 2) := by
 intro H enc W n cs x h
 obtain ⟨xs, m, _, rfl, hl, hx, hf⟩ := DataW.trod_array Go.Proofs.Tryz.underlying25 h
 rw [c25] at hl
 rw [c3] at hf
 obtain ⟨c0, c1, rfl⟩ := len2 hl
 obtain ⟨x0, x1, rfl⟩ := len2 hx
 ·skip
  have f0 := hf 0 (by omega)
  have f1 := hf 1 (by omega)
  simp at f0 f1
  obtain ⟨u, e0, _, _⟩ := DataW.trod_int Go.Proofs.Tryz.underlying3 f0
  obtain ⟨v, e1, _, _⟩ := DataW.trod_int Go.Proofs.Tryz.underlying3 f1
  cases e0; cases e1
  refine ⟨[u, v], rfl, rfl, by simp [one, Value.oneCell'], .agg _ _ rfl (by simp [one, Value.oneCell']) (by simp [flat]) fun i x hx c hc => ?_⟩
  match i with
  | 0 => simp at hx hc; subst hx; subst hc; exact .v _ rfl
  | 1 => simp at hx hc; subst hx; subst hc; exact .v _ rfl
  | i + 2 => simp at hx
theorem SeekTowers_does {g : Gr} {two sc : List Int} (h2 : two.length = 2) (hs : ∀ x ∈ sc, 0 ≤ x ∧ x < 4294967296) : Does PP GV 3 [] [GrA g, AR I two, SL 1 (J .u32) sc] [] [] (B true) :=
 w_law29_SeekTowers (Mm.law29_SeekTowers h2 hs)
end Go.Ar
