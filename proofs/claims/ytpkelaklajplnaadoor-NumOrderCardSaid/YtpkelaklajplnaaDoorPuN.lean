/- The statements of layer 1 about plain numbers and lists: no program in sight. No condition but the sizes. -/
import Derived.Test.YtpkelaklajplnaaDoorGclavierlaw01b
import Derived.Test.YtpkelaklajplnaaDoorPTx
import Derived.Lib.Strings
namespace Go.Proofs.YtpkelaklajplnaaDoor.G
set_option linter.unusedVariables false
set_option linter.unusedSimpArgs false
open Go.RowKit Kit Go.Proofs.YtpkelaklajplnaaDoorW.PrintWords

theorem awake01_true : clavierlaw01_awake.f = some true := rfl
theorem hexI {l : List Int} (h : isB l = true) (hl : l.length ≤ 1000000) : num_Hex.f l = some ⟨(hexL (bytesI l)).toArray⟩ := by unfold num_Hex.f; rw [if_pos h, if_pos hl]
theorem unhexI {s : ByteArray} (hl : s.size ≤ 1000000) : num_Unhex.f s = some (natsB ((unhexL s.data.toList).getD []), (unhexL s.data.toList).isSome) := by unfold num_Unhex.f; rw [if_pos hl]
theorem textI {n : Int} (h0 : -9223372036854775808 ≤ n) (h1 : n ≤ 9223372036854775807) : num_Text.f n = some ⟨(textL n).toArray⟩ := by unfold num_Text.f; rw [if_pos ⟨h0, h1⟩]
theorem takeI {l : List Int} (h : isB l = true) (hl : l.length ≤ 4611686018427387904) : num_Take.f l = some ((takeF 0 (bytesI l)).1, ((takeF 0 (bytesI l)).2 : Int)) := by unfold num_Take.f; rw [if_pos h, if_pos hl]

theorem numHexes_pure (l : List Int) (s : ByteArray) (hb : isB l = true) : ∃ k, clavierlaw01_NumHexes.f k l s = some true := by
  refine ⟨1, ?_⟩
  unfold clavierlaw01_NumHexes.f
  rw [awake01_true]
  simp only [Option.bind_some]
  by_cases h1 : (l.length : Int) > 100
  · rw [if_pos h1]
    simp [clavierlaw01_NumHexes.j0]
  · rw [if_neg h1]
    by_cases h2 : (s.size : Int) > 100
    · simp [clavierlaw01_NumHexes.j0, h2]
    · have e1 := hexI hb (by omega)
      have e2 := unhexI (s := s) (by omega)
      have e3 : clavierref01_Hex.f l = num_Hex.f l := rfl
      have e4 : clavierref01_Unhex.f s = num_Unhex.f s := rfl
      simp [clavierlaw01_NumHexes.j0, h2, e3, e4, e1, e2]

theorem byte_append (s t : ByteArray) : (s ++ t).data.toList = s.data.toList ++ t.data.toList := by
  rw [ByteArray.data_append, Array.toList_append]
theorem bytesI_append (a b : List Int) : bytesI (a ++ b) = bytesI a ++ bytesI b := by simp [bytesI]
theorem isB_append {a b : List Int} (ha : isB a = true) (hb : isB b = true) : isB (a ++ b) = true := by
  rw [isB_iff] at *
  intro z hz
  rcases List.mem_append.1 hz with h | h
  · exact ha z h
  · exact hb z h
theorem hexL_append (a b : List UInt8) : hexL (a ++ b) = hexL a ++ hexL b := by simp [hexL]
theorem valU_figV {n : Nat} (h : n < 16) : valU (figV n) = n := by
  have : ∀ m, m < 16 → valU (figV m) = (m : Int) := by decide
  exact this n h
theorem pairU_fig (c : UInt8) : pairU (figV (c.toNat / 16)) (figV (c.toNat % 16)) = c := by
  unfold pairU
  rw [valU_figV (by have := c.toNat_lt; omega), valU_figV (by omega)]
  have : (16 * ((c.toNat / 16 : Nat) : Int) + ((c.toNat % 16 : Nat) : Int)).toNat = c.toNat := by omega
  rw [this]
  simp
theorem unhexL_hexL (l : List UInt8) : unhexL (hexL l) = some l := by
  induction l with
  | nil => rfl
  | cons c l ih =>
    have e : hexL (c :: l) = figV (c.toNat / 16) :: figV (c.toNat % 16) :: hexL l := by simp [hexL]
    rw [e, unhexL, if_neg, ih, pairU_fig]
    · rfl
    · rw [valU_figV (by have := c.toNat_lt; omega), valU_figV (by omega)]
      omega
theorem size_of_list (l : List UInt8) : (⟨l.toArray⟩ : ByteArray).size = l.length := by simp [ByteArray.size]

theorem numJoins_pure (a b : List Int) (odd : Bool) (ha : isB a = true) (hb : isB b = true) (sa : a.length * 1 ≤ 140737488351232) (sb : b.length * 1 ≤ 140737488351232) : clavierlaw01_NumJoins.f a b odd = some true := by
  have hw : wrap64 ((a.length : Int) + (b.length : Int)) = a.length + b.length := by unfold wrap64; omega
  unfold clavierlaw01_NumJoins.f
  rw [awake01_true, Option.bind_some, hw]
  by_cases h1 : (a.length : Int) + (b.length : Int) > 100
  · rw [if_pos h1]
  · have hs : (hexL (bytesI a)).length = 2 * a.length := by rw [hexL_length, bytesI_length]
    have ht : (hexL (bytesI b)).length = 2 * b.length := by rw [hexL_length, bytesI_length]
    have hst : (hexL (bytesI (a ++ b))).length = 2 * (a.length + b.length) := by rw [hexL_length, bytesI_length, List.length_append]
    have e1 : ((⟨(hexL (bytesI a)).toArray⟩ : ByteArray) ++ ⟨(hexL (bytesI b)).toArray⟩) = ⟨(hexL (bytesI (a ++ b))).toArray⟩ := by
      rw [ByteArray.mk_append_mk, bytesI_append, hexL_append]
    have e3 : unhexL (hexL (bytesI (a ++ b)) ++ [103, 48]) = none := by
      refine unhexL_bad (k := (hexL (bytesI (a ++ b))).length) (by simp) ?_
      rw [List.getElem?_append_right (Nat.le_refl _)]
      simp
      decide
    have e2 : ((⟨(hexL (bytesI (a ++ b))).toArray⟩ : ByteArray) ++ ⟨#[103, 48]⟩) = ⟨(hexL (bytesI (a ++ b)) ++ [103, 48]).toArray⟩ := by
      rw [show (⟨#[103, 48]⟩ : ByteArray) = ⟨([103, 48] : List UInt8).toArray⟩ from rfl, ByteArray.mk_append_mk]
    rw [if_neg h1, hexI ha (by omega), Option.bind_some, hexI hb (by omega), Option.bind_some, if_pos (by rw [size_of_list, size_of_list]; omega), Option.bind_some, if_pos (by rw [List.length_nil]; omega), Option.bind_some, if_pos (by rw [List.nil_append]; omega), Option.bind_some, List.nil_append, e1,
      unhexI (by rw [size_of_list]; omega), Option.bind_some]
    have e4 : unhexL (⟨(hexL (bytesI (a ++ b))).toArray⟩ : ByteArray).data.toList = some (bytesI (a ++ b)) := unhexL_hexL _
    have e5 := hexI (isB_append ha hb) (by rw [List.length_append]; omega)
    rw [e4]
    cases odd
    · have h7 : (natsB ((some (bytesI (a ++ b))).getD []), (some (bytesI (a ++ b))).isSome) = (a ++ b, true) := by rw [Option.getD_some, natsB_bytesI (isB_append ha hb)]; rfl
      rw [if_neg (by decide), if_pos rfl, e5, Option.bind_some, if_pos rfl, h7, if_pos rfl, beq_self_eq_true]
    · rw [if_pos rfl, if_pos (by rw [size_of_list]; omega), e2, unhexI (by rw [size_of_list, List.length_append]; simp; omega), Option.bind_some, if_pos rfl]
      have e6 : unhexL (⟨(hexL (bytesI (a ++ b)) ++ [103, 48]).toArray⟩ : ByteArray).data.toList = none := e3
      rw [e6, if_neg (by decide), e5, Option.bind_some, beq_self_eq_true]

theorem bytesI_of (s : ByteArray) : bytesI (bytesOf s) = s.data.toList := bytesI_natsB _
theorem isB_of (s : ByteArray) : isB (bytesOf s) = true := isB_natsB _
def zerosAt (d i : Nat) : List Int := List.replicate i 48 ++ List.replicate (d - i) 0
theorem zerosAt_set {d i : Nat} (h : i < d) : (zerosAt d i).set i 48 = zerosAt d (i + 1) := by
  unfold zerosAt
  rw [List.set_append_right _ _ (by simp)]
  have : d - i = (d - (i + 1)) + 1 := by omega
  rw [this]
  simp only [List.length_replicate, Nat.sub_self, List.replicate_succ, List.set_cons_zero]
  rw [show List.replicate i (48 : Int) ++ 48 :: List.replicate (d - (i + 1)) 0 = (List.replicate i (48 : Int) ++ [48]) ++ List.replicate (d - (i + 1)) 0 by simp]
  rw [← List.replicate_succ', List.replicate_succ]
theorem zerosAt_length (d i : Nat) (h : i ≤ d) : (zerosAt d i).length = d := by simp [zerosAt]; omega
theorem order_loop (d : Nat) (x0 x1 x2 : Int) (x7 : Bool) (x8 x9 : ByteArray) (hd : d ≤ 1000) : ∀ j i k, i + j = d → j < k → clavierlaw01_NumOrder.l0 k x0 x1 x2 x7 x8 x9 (zerosAt d i) i = clavierlaw01_NumOrder.l0 1 x0 x1 x2 x7 x8 x9 (zerosAt d d) d := by
  intro j
  induction j with
  | zero =>
    intro i k hi hk
    obtain ⟨k, rfl⟩ : ∃ m, k = m + 1 := ⟨k - 1, by omega⟩
    obtain rfl : i = d := by omega
    have h1 : ¬ ((i : Int) < ((zerosAt i i).length : Int)) := by rw [zerosAt_length _ _ (Nat.le_refl _)]; omega
    rw [clavierlaw01_NumOrder.l0, if_neg h1, clavierlaw01_NumOrder.l0, if_neg h1]
  | succ j ih =>
    intro i k hi hk
    obtain ⟨k, rfl⟩ : ∃ m, k = m + 1 := ⟨k - 1, by omega⟩
    have h1 : ((i : Int) < ((zerosAt d i).length : Int)) := by rw [zerosAt_length _ _ (by omega)]; omega
    have hw : wrap64 ((i : Int) + 1) = ((i + 1 : Nat) : Int) := by unfold wrap64; omega
    rw [clavierlaw01_NumOrder.l0, if_pos h1, if_pos (Int.natCast_nonneg i), hw, show (i : Int).toNat = i from rfl, zerosAt_set (by omega)]
    exact ih (i + 1) k (by omega) (by omega)
theorem zerosAt_all (d : Nat) : zerosAt d d = List.replicate d 48 := by simp [zerosAt]
theorem figs_zeros (d : Nat) : ∀ c ∈ List.replicate d (48 : UInt8), figU c = true := by
  intro c hc
  rw [List.eq_of_mem_replicate hc]
  decide

theorem numOrder_pure (a b n : Int) (ha : 0 ≤ a ∧ a < 65536) (hb : 0 ≤ b ∧ b < 65536) (hn : 0 ≤ n ∧ n < 256) : ∃ k, clavierlaw01_NumOrder.f k a b n = some true := by
  obtain ⟨d, hd⟩ : ∃ d : Nat, n % 20 = d := ⟨(n % 20).toNat, by omega⟩
  have e1 : wrap64 a = a := by unfold wrap64; omega
  have e2 : wrap64 b = b := by unfold wrap64; omega
  have e3 : wrap64 (Int.tmod n 20) = d := by rw [Int.tmod_eq_emod_of_nonneg hn.1, hd]; unfold wrap64; omega
  have hd20 : d < 20 := by omega
  refine ⟨d + 2, ?_⟩
  unfold clavierlaw01_NumOrder.f
  rw [awake01_true, Option.bind_some, e1, e2, e3, textI (by omega) (by omega), Option.bind_some, textI (by omega) (by omega), Option.bind_some, if_pos (Int.natCast_nonneg d), if_pos (by omega), show (d : Int).toNat = d from rfl]
  have h0 : List.replicate d (0 : Int) = zerosAt d 0 := by simp [zerosAt]
  rw [h0, show (0 : Int) = ((0 : Nat) : Int) from rfl, order_loop d a b n true _ _ (by omega) d 0 (d + 2) (by omega) (by omega), zerosAt_all]
  have hla := textL_len ha.1 (by omega)
  have hs : (⟨(textL a).toArray⟩ : ByteArray).size = (textL a).length := size_of_list _
  have hb0 : bytesI (List.replicate d (48 : Int) ++ bytesOf ⟨(textL a).toArray⟩) = List.replicate d 48 ++ textL a := by
    rw [bytesI_append, bytesI_of]
    simp [bytesI]
  have hbb : isB (List.replicate d (48 : Int) ++ bytesOf ⟨(textL a).toArray⟩) = true := isB_append (by rw [isB_iff]; intro z hz; rw [List.eq_of_mem_replicate hz]; decide) (isB_of _)
  have ht : takeF 0 (List.replicate d 48 ++ textL a) = (a, (textL a).length + d) := by
    rw [takeF_all _ _ (figs_zeros d), foldF_noughts]
    have h2 := takeF_all (textL a) [] (textL_figs a) 0
    rw [List.append_nil] at h2
    rw [h2, foldF_text ha.1]
    simp only [takeF, List.length_replicate, Prod.mk.injEq]
    omega
  rw [clavierlaw01_NumOrder.l0, if_neg (by rw [List.length_replicate]; omega), if_pos (by rw [List.length_replicate, hs]; omega), takeI hbb (by rw [List.length_append, List.length_replicate, bytesOf_length, hs]; omega), hb0, ht, Option.bind_some, if_pos rfl]
  have hw : wrap64 (((⟨(textL a).toArray⟩ : ByteArray).size : Int) + wrap64 (Int.tmod n 20)) = (((textL a).length + d : Nat) : Int) := by
    rw [e3, hs]; unfold wrap64; omega
  rw [hw, e1]
  have heq : ((⟨(textL a).toArray⟩ : ByteArray).toList == (⟨(textL b).toArray⟩ : ByteArray).toList) = (a == b) := by
    rw [Lib.toList_data, Lib.toList_data, Bool.eq_iff_iff, beq_iff_eq, beq_iff_eq]
    exact ⟨fun h => textL_inj ha.1 hb.1 (by omega) (by omega) (by simpa using h), fun h => by rw [h]⟩
  rw [heq]
  have hfin : (if ((a == b) == (a == b)) = true then (if (a, (textL a).length + d).1 = a then (some (((((a, (textL a).length + d).2 : Nat) : Int)) == (((textL a).length + d : Nat) : Int))) else (some false)) else (some false)) = some true := by
    rw [if_pos (by simp), if_pos rfl]
    simp
  by_cases hab : a > b
  · rw [if_pos hab]; exact hfin
  · have := textL_mono ha.1 (show a ≤ b by omega)
    have hs' : (⟨(textL b).toArray⟩ : ByteArray).size = (textL b).length := size_of_list _
    rw [if_neg hab, if_pos (by rw [hs, hs']; omega)]; exact hfin

end Go.Proofs.YtpkelaklajplnaaDoor.G
