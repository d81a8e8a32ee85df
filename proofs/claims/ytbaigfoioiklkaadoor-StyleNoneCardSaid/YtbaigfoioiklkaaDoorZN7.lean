/- N: texts run together by shake.py: StE. -/
import Derived.ArgAppend
import Derived.Below
import Derived.BigQuiet
import Derived.ChangeOld
import Derived.ChangeSlices
import Derived.Deep.AppendLies
import Derived.Deep.CutBlock
import Derived.Deep.DeepCutAuto
import Derived.Deep.Draws
import Derived.Deep.LoopGhost
import Derived.Deep.Matrix
import Derived.Deep.OwnRows
import Derived.Deep.Quiet
import Derived.Deep.QuietTactic
import Derived.Deep.RegionHeld3
import Derived.KernelRfl
import Derived.Laws.AppendOwn
import Derived.Laws.AppendOwnNone
import Derived.Laws.BitsLemmas
import Derived.Laws.BytesArg
import Derived.Laws.Concat
import Derived.Laws.CopyRow
import Derived.Laws.IdiomCopy
import Derived.Laws.IdiomStrings
import Derived.Laws.MakeOwn
import Derived.Laws.OwnMore
import Derived.Laws.Rows
import Derived.Laws.Slices
import Derived.Laws.StructEq
import Derived.Lib.AppendIntMem
import Derived.Lib.AppendStr
import Derived.Lib.ConvBytes
import Derived.Lib.Hide
import Derived.Lib.ItoaLen
import Derived.Lib.ItoaNum
import Derived.Lib.Join
import Derived.Lib.LaidTab
import Derived.Lib.Strings
import Derived.MapKept
import Derived.Maps.AppendAt
import Derived.OpenShut
import Derived.Orders
import Derived.OrdersHeld
import Derived.Outline
import Derived.OwnWalk
import Derived.ProofKit
import Derived.RowKit
import Derived.RowKit3
import Derived.Shelf.LaysM
import Derived.Shelf.Strconv.Itoa0
import Derived.Shelf.Strconv.Itoa1
import Derived.Shelf.Strconv.Itoa2
import Derived.Shelf.Strconv.Itoa3
import Derived.Shelf.Strings.Builder1
import Derived.Shelf.Strings.Builder2
import Derived.Shelf.Strings.Builder2Cap
import Derived.Shelf.Strings.BuilderCap
import Derived.Shelf.Strings.BuilderF
import Derived.Shelf.Strings.BuilderK
import Derived.Shelf.Strings.OnBuilder
import Derived.ShutString
import Derived.SizedLaws
import Derived.Still
import Derived.Tactics
import Derived.Test.YtbaigfoioiklkaaDoorProg
import Derived.WalkKit
import Derived.WalkLawsBesides
import Derived.WalkSpells
import Derived.WideLaws
import Derived.Test.YtbaigfoioiklkaaDoorZN1
import Derived.Test.YtbaigfoioiklkaaDoorZN2
import Derived.Test.YtbaigfoioiklkaaDoorZN3
import Derived.Test.YtbaigfoioiklkaaDoorZN4
import Derived.Test.YtbaigfoioiklkaaDoorZN5
import Derived.Test.YtbaigfoioiklkaaDoorZN6
section
namespace Go.Proofs.YtbaigfoioiklkaaDoor
set_option linter.unusedVariables false
set_option linter.unusedSimpArgs false
open Go.RowKit Kit Go.Proofs.YtbaigfoioiklkaaDoorW.PrintWords
attribute [local irreducible] wpList Calls
theorem style_equal (b0 b1 b2 b3 b4 b5 b6 : Bool) (u f b : Int) : Hid (∀ w, (Op.equal 23 (stV b0 b1 b2 b3 b4 b5 b6 u f b) (stV b0 b1 b2 b3 b4 b5 b6 u f b)).run Tryd.prog w = .ok true w) := Lib.hid fun w => by
  refine (G.eqA23 _ w b0 b0 b1 b1 b2 b2 b3 b3 b4 b4 b5 b5 b6 b6 u u f f b b).trans ?_
  simp
namespace G
def rgbB (x y z : Int) : Bool := byteB x && (byteB y && byteB z)
theorem fold_one (s : St) (x : List Int) : foldS s [x] = oneS s x := rfl
theorem none_one (b0 b1 b2 b3 b4 b5 b6 : Bool) (u f b n : Int) (h : n = 6 ∨ 10 ≤ n ∧ n < 30 ∨ 50 ≤ n ∧ n < 90 ∨ n = 98 ∨ n = 99 ∨ 107 < n) : foldS (b0, b1, b2, b3, b4, b5, b6, u, f, b) [[n]] = (b0, b1, b2, b3, b4, b5, b6, u, f, b) := by
  have hs : ∀ base, base = 30 ∨ base = 40 → saidI [n] base = -2 := by
    intro base hb
    have e0 : at_ [n] 0 = n := rfl
    unfold saidI
    simp only [e0]
    rw [if_neg (by omega), if_neg (by omega), if_neg (by omega), if_neg (by omega)]
  have e1 : (n == 1) = false := beq_eq_false_iff_ne.2 (by omega)
  have e2 : (n == 2) = false := beq_eq_false_iff_ne.2 (by omega)
  have e3 : (n == 3) = false := beq_eq_false_iff_ne.2 (by omega)
  have e5 : (n == 5) = false := beq_eq_false_iff_ne.2 (by omega)
  have e7 : (n == 7) = false := beq_eq_false_iff_ne.2 (by omega)
  have e8 : (n == 8) = false := beq_eq_false_iff_ne.2 (by omega)
  have e9 : (n == 9) = false := beq_eq_false_iff_ne.2 (by omega)
  have e0 : at_ [n] 0 = n := rfl
  have el : [n].length = 1 := rfl
  rw [fold_one]
  unfold oneS oneL
  rw [hs 30 (.inl rfl), hs 40 (.inr rfl)]
  simp only [e0, el, e1, e2, e3, e5, e7, e8, e9, Bool.or_false]
  rw [if_neg (by omega), if_neg (by omega)]
  rfl
theorem colour_one (b0 b1 b2 b3 b4 b5 b6 : Bool) (u f b c0 c1 c2 c3 : Int) : foldS (b0, b1, b2, b3, b4, b5, b6, u, f, b) [[38, 2, c0, c1, c2, c3]] = (b0, b1, b2, b3, b4, b5, b6, u, (if rgbB c1 c2 c3 then 256 + c1 * 65536 + c2 * 256 + c3 else f), b) := by
  have h4 : saidI [38, 2, c0, c1, c2, c3] 40 = -2 := by unfold saidI; simp [at_]
  have h3 : saidI [38, 2, c0, c1, c2, c3] 30 = if rgbB c1 c2 c3 then 256 + c1 * 65536 + c2 * 256 + c3 else -2 := by
    unfold saidI splitI rgbB
    cases g1 : byteB c1 <;> cases g2 : byteB c2 <;> cases g3 : byteB c3 <;> simp [at_, g1, g2, g3]
  rw [fold_one, one_other _ _ _ _ _ _ _ _ _ _ _ (by simp) (by simp [at_]), h3, h4, if_pos rfl]
  cases hr : rgbB c1 c2 c3
  · rfl
  · have : ¬ (256 + c1 * 65536 + c2 * 256 + c3 = -2) := by
      simp only [rgbB, byteB, Bool.and_eq_true, decide_eq_true_eq] at hr
      omega
    rw [if_pos rfl, if_neg this, if_pos rfl]
end G
def upB (x y z : Int) (i : Int) : Bool :=
  if i = 1 then true else if i = 2 then decide (0 ≤ x) && decide (x ≤ 255) else if i = 3 then (decide (0 ≤ x) && decide (x ≤ 255)) && (decide (0 ≤ y) && decide (y ≤ 255)) else ((decide (0 ≤ x) && decide (x ≤ 255)) && (decide (0 ≤ y) && decide (y ≤ 255))) && (decide (0 ≤ z) && decide (z ≤ 255))
theorem upB_all (x y z : Int) : upB x y z 4 = G.rgbB x y z := by
  have e : ∀ a : Int, (decide (0 ≤ a) && decide (a ≤ 255)) = byteB a := by
    intro a
    unfold byteB
    by_cases h : a ≤ 255
    · rw [decide_eq_true h, decide_eq_true (show a < 256 by omega)]
    · rw [decide_eq_false h, decide_eq_false (show ¬ a < 256 by omega)]
  show (((_ && _) && (_ && _)) && (_ && _)) = _
  rw [e, e, e]
  unfold G.rgbB
  rw [Bool.and_assoc]
theorem upB_ways (x y z c : Int) (i : Int) (h : upB x y z (i + 1) = (upB x y z i && (decide (0 ≤ c) && decide (c ≤ 255)))) :
    (upB x y z i = false ∧ upB x y z (i + 1) = false) ∨ (upB x y z i = true ∧ decide (0 ≤ c) = false ∧ upB x y z (i + 1) = false) ∨ (upB x y z i = true ∧ decide (0 ≤ c) = true ∧ decide (c ≤ 255) = false ∧ upB x y z (i + 1) = false) ∨ (upB x y z i = true ∧ decide (0 ≤ c) = true ∧ decide (c ≤ 255) = true ∧ upB x y z (i + 1) = true) := by
  rw [h]
  cases upB x y z i <;> cases decide (0 ≤ c) <;> cases decide (c ≤ 255) <;> simp
def AppAt (s r : St) (xs : List Int) (n : Nat) : Prop :=
  ∀ (W : World) (g1 g2 : Nat), W.heap[g1]? = some (.cells (xs.map (Value.int .i64)).toArray 3 (0, 0)) → W.heap[g2]? = some (.cells [Value.slice (some ⟨g1, 0, none⟩) n n].toArray 35 (0, 0)) →
    Calls Tryd.prog 18 #[stV s.1 s.2.1 s.2.2.1 s.2.2.2.1 s.2.2.2.2.1 s.2.2.2.2.2.1 s.2.2.2.2.2.2.1 s.2.2.2.2.2.2.2.1 s.2.2.2.2.2.2.2.2.1 s.2.2.2.2.2.2.2.2.2, .slice (some ⟨g2, 0, none⟩) 1 1] W fun e w' => e = .returned (stV r.1 r.2.1 r.2.2.1 r.2.2.2.1 r.2.2.2.2.1 r.2.2.2.2.2.1 r.2.2.2.2.2.2.1 r.2.2.2.2.2.2.2.1 r.2.2.2.2.2.2.2.2.1 r.2.2.2.2.2.2.2.2.2) ∧ Below W.heap.size W w'
theorem app_at (s : St) (xs : List Int) (n : Nat) (hn : xs.length = n) (hm : n ≤ 1000) (hi : G.InI xs) : AppAt s (G.foldS s [xs]) xs n := by
  intro W g1 g2 h1 h2
  have h := G.Apply_is s [xs] (by intro x hx; rw [List.mem_singleton.1 hx]; exact hi) (by simp) 100 (by simp)
  exact G.style_Apply.calls 100 _ _ _ _ _ _ _ _ _ _ (some ⟨g2, 0, none⟩) 1 [xs] _ _ _ _ _ _ _ _ _ _ W (lit_row hn hm h1 h2) (Nat.le_refl _) h
set_option maxRecDepth 100000 in
set_option maxHeartbeats 16000000 in
theorem styleNone_known (b0 b1 b2 b3 b4 b5 b6 : Bool) (u f b n c0 c1 c2 c3 f' : Int) (r0 r1 r2 r3 r4 r5 r6 : Bool) (ru rf rb : Int) (hn : (n ≤ 9 ∧ n ≠ 6) ∨ (30 ≤ n ∧ n ≤ 49) ∨ (90 ≤ n ∧ n ≤ 97 ∨ 100 ≤ n ∧ n ≤ 107)) (hA1 : AppAt (b0, b1, b2, b3, b4, b5, b6, u, f, b) (r0, r1, r2, r3, r4, r5, r6, ru, rf, rb) [n] 1) (hA2 : AppAt (b0, b1, b2, b3, b4, b5, b6, u, f, b) (b0, b1, b2, b3, b4, b5, b6, u, f', b) [38, 2, c0, c1, c2, c3] 6) (hf' : f' = if G.rgbB c1 c2 c3 then 256 + c1 * 65536 + c2 * 256 + c3 else f) (w : World) (hT : Tab w) :
    Calls Tryd.prog 8 #[stV b0 b1 b2 b3 b4 b5 b6 u f b, .int .i64 n, .agg #[.int .i64 c0, .int .i64 c1, .int .i64 c2, .int .i64 c3]] w fun e w' => e = .returned (.bool true) ∧ Below w.heap.size w w' := by
  have hn' := hn
  clear hn
  rcases hn' with hn | hn | hn
  case' inl =>
    have k_n9 : decide (n ≤ 9) = true := decide_eq_true (by omega)
    have k_n6 : (n == 6) = false := beq_eq_false_iff_ne.2 (by omega)
    have k_n6' : ¬ n = 6 := by omega
  case' inr.inl =>
    have k_n9 : decide (n ≤ 9) = false := decide_eq_false (by omega)
    have k_n30 : decide (30 ≤ n) = true := decide_eq_true (by omega)
    have k_n49 : decide (n ≤ 49) = true := decide_eq_true (by omega)
  case' inr.inr =>
    have k_n9 : decide (n ≤ 9) = false := decide_eq_false (by omega)
    have k_n30 : decide (30 ≤ n) = true := decide_eq_true (by omega)
    have k_n49 : decide (n ≤ 49) = false := decide_eq_false (by omega)
    have k_n90 : decide (90 ≤ n) = true := decide_eq_true (by omega)
    have k_n107 : decide (n ≤ 107) = true := decide_eq_true (by omega)
    have k_n98 : (n == 98) = false := beq_eq_false_iff_ne.2 (by omega)
    have k_n98' : ¬ n = 98 := by omega
    have k_n99 : (n == 99) = false := beq_eq_false_iff_ne.2 (by omega)
    have k_n99' : ¬ n = 99 := by omega
  all_goals
    have HAW : Hid (∀ W, Below w.heap.size w W → Calls Tryd.prog 9 #[] W fun e w' => e = .returned (.bool true) ∧ Below W.heap.size W w') := Lib.hid (fun W hb => G.clavierlaw18_awake.calls 13000 true W (Tab.below hT hb) (G.awake18_is 13000 (by omega)))
    have HA1 := Lib.hid hA1
    have HA2 := Lib.hid hA2
    have HF := Lib.hid hf'
    have HE := style_equal b0 b1 b2 b3 b4 b5 b6 u f b
    have HO := Mine.start w
    clear hA1 hA2 hf' hn hT
    unfold AppAt at HA1 HA2
    unfold stV at *
    go_enter Tryd.func8, Tryd.ntmps8
    go_wp2_with (first
      | (go_at_call 9; refine (HAW.out _ HO.below).mono ?_; rintro eN wN ⟨rfl, hbN⟩; have HON := HO.call hbN; clear HO hbN; have HO := HON; clear HON)
      | (go_at_call 18; refine (HA1.out _ g1 g2 (HO.at (by first | exact .head _ | exact .tail _ (.head _) | exact .tail _ (.tail _ (.head _)) | exact .tail _ (.tail _ (.tail _ (.head _))) | exact .tail _ (.tail _ (.tail _ (.tail _ (.head _)))) | exact .tail _ (.tail _ (.tail _ (.tail _ (.tail _ (.head _))))) | exact .tail _ (.tail _ (.tail _ (.tail _ (.tail _ (.tail _ (.head _)))))) | exact .tail _ (.tail _ (.tail _ (.tail _ (.tail _ (.tail _ (.tail _ (.head _))))))) | exact .tail _ (.tail _ (.tail _ (.tail _ (.tail _ (.tail _ (.tail _ (.tail _ (.head _)))))))) | exact .tail _ (.tail _ (.tail _ (.tail _ (.tail _ (.tail _ (.tail _ (.tail _ (.tail _ (.head _))))))))) | exact .tail _ (.tail _ (.tail _ (.tail _ (.tail _ (.tail _ (.tail _ (.tail _ (.tail _ (.tail _ (.head _)))))))))) | exact .tail _ (.tail _ (.tail _ (.tail _ (.tail _ (.tail _ (.tail _ (.tail _ (.tail _ (.tail _ (.tail _ (.head _))))))))))))) (HO.at (by first | exact .head _ | exact .tail _ (.head _) | exact .tail _ (.tail _ (.head _)) | exact .tail _ (.tail _ (.tail _ (.head _))) | exact .tail _ (.tail _ (.tail _ (.tail _ (.head _)))) | exact .tail _ (.tail _ (.tail _ (.tail _ (.tail _ (.head _))))) | exact .tail _ (.tail _ (.tail _ (.tail _ (.tail _ (.tail _ (.head _)))))) | exact .tail _ (.tail _ (.tail _ (.tail _ (.tail _ (.tail _ (.tail _ (.head _))))))) | exact .tail _ (.tail _ (.tail _ (.tail _ (.tail _ (.tail _ (.tail _ (.tail _ (.head _)))))))) | exact .tail _ (.tail _ (.tail _ (.tail _ (.tail _ (.tail _ (.tail _ (.tail _ (.tail _ (.head _))))))))) | exact .tail _ (.tail _ (.tail _ (.tail _ (.tail _ (.tail _ (.tail _ (.tail _ (.tail _ (.tail _ (.head _)))))))))) | exact .tail _ (.tail _ (.tail _ (.tail _ (.tail _ (.tail _ (.tail _ (.tail _ (.tail _ (.tail _ (.tail _ (.head _)))))))))))))).mono ?_; clear HA1; rintro eN wN ⟨rfl, hbN⟩; have HON := HO.call hbN; clear HO hbN; have HO := HON; clear HON)
      | (go_at_call 18; refine (HA2.out _ g3 g4 (HO.at (by first | exact .head _ | exact .tail _ (.head _) | exact .tail _ (.tail _ (.head _)) | exact .tail _ (.tail _ (.tail _ (.head _))) | exact .tail _ (.tail _ (.tail _ (.tail _ (.head _)))) | exact .tail _ (.tail _ (.tail _ (.tail _ (.tail _ (.head _))))) | exact .tail _ (.tail _ (.tail _ (.tail _ (.tail _ (.tail _ (.head _)))))) | exact .tail _ (.tail _ (.tail _ (.tail _ (.tail _ (.tail _ (.tail _ (.head _))))))) | exact .tail _ (.tail _ (.tail _ (.tail _ (.tail _ (.tail _ (.tail _ (.tail _ (.head _)))))))) | exact .tail _ (.tail _ (.tail _ (.tail _ (.tail _ (.tail _ (.tail _ (.tail _ (.tail _ (.head _))))))))) | exact .tail _ (.tail _ (.tail _ (.tail _ (.tail _ (.tail _ (.tail _ (.tail _ (.tail _ (.tail _ (.head _)))))))))) | exact .tail _ (.tail _ (.tail _ (.tail _ (.tail _ (.tail _ (.tail _ (.tail _ (.tail _ (.tail _ (.tail _ (.head _))))))))))))) (HO.at (by first | exact .head _ | exact .tail _ (.head _) | exact .tail _ (.tail _ (.head _)) | exact .tail _ (.tail _ (.tail _ (.head _))) | exact .tail _ (.tail _ (.tail _ (.tail _ (.head _)))) | exact .tail _ (.tail _ (.tail _ (.tail _ (.tail _ (.head _))))) | exact .tail _ (.tail _ (.tail _ (.tail _ (.tail _ (.tail _ (.head _)))))) | exact .tail _ (.tail _ (.tail _ (.tail _ (.tail _ (.tail _ (.tail _ (.head _))))))) | exact .tail _ (.tail _ (.tail _ (.tail _ (.tail _ (.tail _ (.tail _ (.tail _ (.head _)))))))) | exact .tail _ (.tail _ (.tail _ (.tail _ (.tail _ (.tail _ (.tail _ (.tail _ (.tail _ (.head _))))))))) | exact .tail _ (.tail _ (.tail _ (.tail _ (.tail _ (.tail _ (.tail _ (.tail _ (.tail _ (.tail _ (.head _)))))))))) | exact .tail _ (.tail _ (.tail _ (.tail _ (.tail _ (.tail _ (.tail _ (.tail _ (.tail _ (.tail _ (.tail _ (.head _)))))))))))))).mono ?_; clear HA2; rintro eN wN ⟨rfl, hbN⟩; have HON := HO.call hbN; clear HO hbN; have HO := HON; clear HON)
      | ((with_reducible refine gate ?_); (first
      | ((with_reducible refine gateAt (N := 48) rfl ?_); refine own_lit HO rfl (n := 1) (cs := [.int .i64 n]) (T := 3) (by first | (go_simp; done) | (go_simp; rfl)) ?_; clear HO; intro g1 wN hgN HO; (simp only [List.nil_append, List.cons_append] at HO); (try simp only [Act.put, List.setIfInBounds_toArray, List.set_cons_zero, List.set_cons_succ]))
      | ((with_reducible refine gateAt (N := 49) rfl ?_); refine own_lit HO rfl (n := 1) (cs := [.slice (some ⟨g1, 0, none⟩) 1 1]) (T := 35) (by first | (go_simp; done) | (go_simp; rfl)) ?_; clear HO; intro g2 wN hgN HO; (simp only [List.nil_append, List.cons_append] at HO); (try simp only [Act.put, List.setIfInBounds_toArray, List.set_cons_zero, List.set_cons_succ]))
      | ((with_reducible refine gateAt (N := 60) rfl ?_); refine own_lit HO rfl (n := 6) (cs := [.int .i64 38, .int .i64 2, .int .i64 c0, .int .i64 c1, .int .i64 c2, .int .i64 c3]) (T := 3) (by first | (go_simp; done) | (go_simp; rfl)) ?_; clear HO; intro g3 wN hgN HO; (simp only [List.nil_append, List.cons_append] at HO); (try simp only [Act.put, List.setIfInBounds_toArray, List.set_cons_zero, List.set_cons_succ]))
      | ((with_reducible refine gateAt (N := 61) rfl ?_); refine own_lit HO rfl (n := 1) (cs := [.slice (some ⟨g3, 0, none⟩) 6 6]) (T := 35) (by first | (go_simp; done) | (go_simp; rfl)) ?_; clear HO; intro g4 wN hgN HO; (simp only [List.nil_append, List.cons_append] at HO); (try simp only [Act.put, List.setIfInBounds_toArray, List.set_cons_zero, List.set_cons_succ]))
      | ((refine own_eql (t := 23) rfl rfl rfl rfl (by kernel_rfl) HE.out ?_); (try simp only [Act.put, List.setIfInBounds_toArray, List.set_cons_zero, List.set_cons_succ]))
      | ((refine own_box HO rfl rfl rfl ?_); clear HO; intro gN wN hgN HO; (simp only [List.nil_append, List.cons_append] at HO); (try simp only [Act.put, List.setIfInBounds_toArray, List.set_cons_zero, List.set_cons_succ]))
      | ((refine own_alloc (T := 23) HO rfl rfl Tryd.zeroValue23 rfl ?_); clear HO; intro gN wN hgN HO; (simp only [List.nil_append, List.cons_append] at HO); (try simp only [Act.put, List.setIfInBounds_toArray, List.set_cons_zero, List.set_cons_succ]))
      | ((refine own_load (T := 23) HO rfl rfl rfl (by first | exact .head _ | exact .tail _ (.head _) | exact .tail _ (.tail _ (.head _)) | exact .tail _ (.tail _ (.tail _ (.head _))) | exact .tail _ (.tail _ (.tail _ (.tail _ (.head _)))) | exact .tail _ (.tail _ (.tail _ (.tail _ (.tail _ (.head _))))) | exact .tail _ (.tail _ (.tail _ (.tail _ (.tail _ (.tail _ (.head _)))))) | exact .tail _ (.tail _ (.tail _ (.tail _ (.tail _ (.tail _ (.tail _ (.head _))))))) | exact .tail _ (.tail _ (.tail _ (.tail _ (.tail _ (.tail _ (.tail _ (.tail _ (.head _)))))))) | exact .tail _ (.tail _ (.tail _ (.tail _ (.tail _ (.tail _ (.tail _ (.tail _ (.tail _ (.head _))))))))) | exact .tail _ (.tail _ (.tail _ (.tail _ (.tail _ (.tail _ (.tail _ (.tail _ (.tail _ (.tail _ (.head _)))))))))) | exact .tail _ (.tail _ (.tail _ (.tail _ (.tail _ (.tail _ (.tail _ (.tail _ (.tail _ (.tail _ (.tail _ (.head _)))))))))))) Tryd.isAgg23 Tryd.sizeOf23 (by repeat constructor) ?_); (try simp only [Act.put, List.setIfInBounds_toArray, List.set_cons_zero, List.set_cons_succ]))
      | ((refine own_load (T := 39) HO rfl rfl rfl (by first | exact .head _ | exact .tail _ (.head _) | exact .tail _ (.tail _ (.head _)) | exact .tail _ (.tail _ (.tail _ (.head _))) | exact .tail _ (.tail _ (.tail _ (.tail _ (.head _)))) | exact .tail _ (.tail _ (.tail _ (.tail _ (.tail _ (.head _))))) | exact .tail _ (.tail _ (.tail _ (.tail _ (.tail _ (.tail _ (.head _)))))) | exact .tail _ (.tail _ (.tail _ (.tail _ (.tail _ (.tail _ (.tail _ (.head _))))))) | exact .tail _ (.tail _ (.tail _ (.tail _ (.tail _ (.tail _ (.tail _ (.tail _ (.head _)))))))) | exact .tail _ (.tail _ (.tail _ (.tail _ (.tail _ (.tail _ (.tail _ (.tail _ (.tail _ (.head _))))))))) | exact .tail _ (.tail _ (.tail _ (.tail _ (.tail _ (.tail _ (.tail _ (.tail _ (.tail _ (.tail _ (.head _)))))))))) | exact .tail _ (.tail _ (.tail _ (.tail _ (.tail _ (.tail _ (.tail _ (.tail _ (.tail _ (.tail _ (.tail _ (.head _)))))))))))) Tryd.isAgg39 Tryd.sizeOf39 (by repeat constructor) ?_); (try simp only [Act.put, List.setIfInBounds_toArray, List.set_cons_zero, List.set_cons_succ]))
      | ((refine own_load1 (T := 3) HO rfl rfl rfl (by first | exact .head _ | exact .tail _ (.head _) | exact .tail _ (.tail _ (.head _)) | exact .tail _ (.tail _ (.tail _ (.head _))) | exact .tail _ (.tail _ (.tail _ (.tail _ (.head _)))) | exact .tail _ (.tail _ (.tail _ (.tail _ (.tail _ (.head _))))) | exact .tail _ (.tail _ (.tail _ (.tail _ (.tail _ (.tail _ (.head _)))))) | exact .tail _ (.tail _ (.tail _ (.tail _ (.tail _ (.tail _ (.tail _ (.head _))))))) | exact .tail _ (.tail _ (.tail _ (.tail _ (.tail _ (.tail _ (.tail _ (.tail _ (.head _)))))))) | exact .tail _ (.tail _ (.tail _ (.tail _ (.tail _ (.tail _ (.tail _ (.tail _ (.tail _ (.head _))))))))) | exact .tail _ (.tail _ (.tail _ (.tail _ (.tail _ (.tail _ (.tail _ (.tail _ (.tail _ (.tail _ (.head _)))))))))) | exact .tail _ (.tail _ (.tail _ (.tail _ (.tail _ (.tail _ (.tail _ (.tail _ (.tail _ (.tail _ (.tail _ (.head _)))))))))))) Tryd.isAgg3 rfl ?_); (try simp only [Act.put, List.setIfInBounds_toArray, List.set_cons_zero, List.set_cons_succ]))
      | ((refine own_store (T := 23) HO rfl rfl rfl rfl (by first | exact .here | exact .there (.here) | exact .there (.there (.here)) | exact .there (.there (.there (.here))) | exact .there (.there (.there (.there (.here)))) | exact .there (.there (.there (.there (.there (.here))))) | exact .there (.there (.there (.there (.there (.there (.here)))))) | exact .there (.there (.there (.there (.there (.there (.there (.here))))))) | exact .there (.there (.there (.there (.there (.there (.there (.there (.here)))))))) | exact .there (.there (.there (.there (.there (.there (.there (.there (.there (.here))))))))) | exact .there (.there (.there (.there (.there (.there (.there (.there (.there (.there (.here)))))))))) | exact .there (.there (.there (.there (.there (.there (.there (.there (.there (.there (.there (.here)))))))))))) Tryd.sizeOf23 (by repeat constructor) rfl ?_); clear HO; intro wN HO; (try simp only [Act.put, List.setIfInBounds_toArray, List.set_cons_zero, List.set_cons_succ]))
      | ((refine own_store (T := 39) HO rfl rfl rfl rfl (by first | exact .here | exact .there (.here) | exact .there (.there (.here)) | exact .there (.there (.there (.here))) | exact .there (.there (.there (.there (.here)))) | exact .there (.there (.there (.there (.there (.here))))) | exact .there (.there (.there (.there (.there (.there (.here)))))) | exact .there (.there (.there (.there (.there (.there (.there (.here))))))) | exact .there (.there (.there (.there (.there (.there (.there (.there (.here)))))))) | exact .there (.there (.there (.there (.there (.there (.there (.there (.there (.here))))))))) | exact .there (.there (.there (.there (.there (.there (.there (.there (.there (.there (.here)))))))))) | exact .there (.there (.there (.there (.there (.there (.there (.there (.there (.there (.there (.here)))))))))))) Tryd.sizeOf39 (by repeat constructor) rfl ?_); clear HO; intro wN HO; (try simp only [Act.put, List.setIfInBounds_toArray, List.set_cons_zero, List.set_cons_succ]))
      | ((refine own_store (T := 3) HO rfl rfl rfl rfl (by first | exact .here | exact .there (.here) | exact .there (.there (.here)) | exact .there (.there (.there (.here))) | exact .there (.there (.there (.there (.here)))) | exact .there (.there (.there (.there (.there (.here))))) | exact .there (.there (.there (.there (.there (.there (.here)))))) | exact .there (.there (.there (.there (.there (.there (.there (.here))))))) | exact .there (.there (.there (.there (.there (.there (.there (.there (.here)))))))) | exact .there (.there (.there (.there (.there (.there (.there (.there (.there (.here))))))))) | exact .there (.there (.there (.there (.there (.there (.there (.there (.there (.there (.here)))))))))) | exact .there (.there (.there (.there (.there (.there (.there (.there (.there (.there (.there (.here)))))))))))) Tryd.sizeOf3 (by repeat constructor) rfl ?_); clear HO; intro wN HO; (try simp only [Act.put, List.setIfInBounds_toArray, List.set_cons_zero, List.set_cons_succ])))))
    simp [Act.eval] at HO
    have HFF : Hid (∀ x, (if G.rgbB c1 c2 c3 then 256 + c1 * 65536 + c2 * 256 + c3 else f) = x → f' = x) := Lib.hid (fun x h => HF.out.trans h)
    clear HF
    go_loop [12, 13] (fun r i => ∃ z : Int, (z = 1 ∨ z = 2 ∨ z = 3 ∨ z = 4) ∧ i = .int .i64 z ∧ r = .bool (upB c1 c2 c3 z)) (fun _ i => (4 - intOf i).toNat)
    case atStart => exact ⟨1, .inl rfl, rfl, rfl⟩
    case round =>
      obtain ⟨z, hz, rfl, rfl⟩ := hrel
      rcases hz with rfl | rfl | rfl | rfl
      case inr.inr.inr =>
        have hR : upB c1 c2 c3 4 = G.rgbB c1 c2 c3 := upB_all c1 c2 c3
        rw [hR]
        clear hR
        cases hr : G.rgbB c1 c2 c3 with
        | false =>
          have e := HFF.out f (by rw [hr]; rfl)
          subst e
          clear HFF hr
          go_wp2_with (first
      | ((with_reducible refine gate ?_); (first
      | ((refine own_eql (t := 23) rfl rfl rfl rfl (by kernel_rfl) HE.out ?_); (try simp only [Act.put, List.setIfInBounds_toArray, List.set_cons_zero, List.set_cons_succ]))
      | ((refine own_box HO rfl rfl rfl ?_); clear HO; intro gN wN hgN HO; (simp only [List.nil_append, List.cons_append] at HO); (try simp only [Act.put, List.setIfInBounds_toArray, List.set_cons_zero, List.set_cons_succ]))
      | ((refine own_load (T := 23) HO rfl rfl rfl (by first | exact .head _ | exact .tail _ (.head _) | exact .tail _ (.tail _ (.head _)) | exact .tail _ (.tail _ (.tail _ (.head _))) | exact .tail _ (.tail _ (.tail _ (.tail _ (.head _)))) | exact .tail _ (.tail _ (.tail _ (.tail _ (.tail _ (.head _))))) | exact .tail _ (.tail _ (.tail _ (.tail _ (.tail _ (.tail _ (.head _)))))) | exact .tail _ (.tail _ (.tail _ (.tail _ (.tail _ (.tail _ (.tail _ (.head _))))))) | exact .tail _ (.tail _ (.tail _ (.tail _ (.tail _ (.tail _ (.tail _ (.tail _ (.head _))))))))) Tryd.isAgg23 Tryd.sizeOf23 (by repeat constructor) ?_); (try simp only [Act.put, List.setIfInBounds_toArray, List.set_cons_zero, List.set_cons_succ]))
      | ((refine own_load1 (T := 3) HO rfl rfl rfl (by first | exact .head _ | exact .tail _ (.head _) | exact .tail _ (.tail _ (.head _)) | exact .tail _ (.tail _ (.tail _ (.head _))) | exact .tail _ (.tail _ (.tail _ (.tail _ (.head _)))) | exact .tail _ (.tail _ (.tail _ (.tail _ (.tail _ (.head _))))) | exact .tail _ (.tail _ (.tail _ (.tail _ (.tail _ (.tail _ (.head _)))))) | exact .tail _ (.tail _ (.tail _ (.tail _ (.tail _ (.tail _ (.tail _ (.head _))))))) | exact .tail _ (.tail _ (.tail _ (.tail _ (.tail _ (.tail _ (.tail _ (.tail _ (.head _))))))))) Tryd.isAgg3 rfl ?_); (try simp only [Act.put, List.setIfInBounds_toArray, List.set_cons_zero, List.set_cons_succ]))
      | ((refine own_store (T := 23) HO rfl rfl rfl rfl (by first | exact .here | exact .there (.here) | exact .there (.there (.here)) | exact .there (.there (.there (.here))) | exact .there (.there (.there (.there (.here)))) | exact .there (.there (.there (.there (.there (.here))))) | exact .there (.there (.there (.there (.there (.there (.here)))))) | exact .there (.there (.there (.there (.there (.there (.there (.here))))))) | exact .there (.there (.there (.there (.there (.there (.there (.there (.here))))))))) Tryd.sizeOf23 (by repeat constructor) rfl ?_); clear HO; intro wN HO; (try simp only [Act.put, List.setIfInBounds_toArray, List.set_cons_zero, List.set_cons_succ]))
      | ((refine own_store (T := 3) HO rfl rfl rfl rfl (by first | exact .here | exact .there (.here) | exact .there (.there (.here)) | exact .there (.there (.there (.here))) | exact .there (.there (.there (.there (.here)))) | exact .there (.there (.there (.there (.there (.here))))) | exact .there (.there (.there (.there (.there (.there (.here)))))) | exact .there (.there (.there (.there (.there (.there (.there (.here))))))) | exact .there (.there (.there (.there (.there (.there (.there (.there (.here))))))))) Tryd.sizeOf3 (by repeat constructor) rfl ?_); clear HO; intro wN HO; (try simp only [Act.put, List.setIfInBounds_toArray, List.set_cons_zero, List.set_cons_succ])))))
          go_ret
          exact ⟨rfl, HO.below⟩
        | true =>
          have e := HFF.out _ (by rw [hr, if_pos rfl])
          simp only [G.rgbB, byteB, Bool.and_eq_true, decide_eq_true_eq] at hr
          obtain ⟨⟨l1, h1⟩, ⟨l2, h2⟩, l3, h3⟩ := hr
          have w1 : IntKind.i64.wrap (65536 * c1) = 65536 * c1 := IntWalk.i64_in _ (by omega)
          have w2 : IntKind.i64.wrap (256 + 65536 * c1) = 256 + 65536 * c1 := IntWalk.i64_in _ (by omega)
          have w3 : IntKind.i64.wrap (256 * c2) = 256 * c2 := IntWalk.i64_in _ (by omega)
          have w4 : IntKind.i64.wrap (256 + 65536 * c1 + 256 * c2) = 256 + 65536 * c1 + 256 * c2 := IntWalk.i64_in _ (by omega)
          have w5 : IntKind.i64.wrap (256 + 65536 * c1 + 256 * c2 + c3) = 256 + 65536 * c1 + 256 * c2 + c3 := IntWalk.i64_in _ (by omega)
          have HEQ : (f' == 256 + 65536 * c1 + 256 * c2 + c3) = true := beq_iff_eq.2 (by omega)
          clear HFF e l1 h1 l2 h2 l3 h3
          go_wp2_with (first
      | ((with_reducible refine gate ?_); (first
      | ((refine own_eql (t := 23) rfl rfl rfl rfl (by kernel_rfl) HE.out ?_); (try simp only [Act.put, List.setIfInBounds_toArray, List.set_cons_zero, List.set_cons_succ]))
      | ((refine own_box HO rfl rfl rfl ?_); clear HO; intro gN wN hgN HO; (simp only [List.nil_append, List.cons_append] at HO); (try simp only [Act.put, List.setIfInBounds_toArray, List.set_cons_zero, List.set_cons_succ]))
      | ((refine own_load (T := 23) HO rfl rfl rfl (by first | exact .head _ | exact .tail _ (.head _) | exact .tail _ (.tail _ (.head _)) | exact .tail _ (.tail _ (.tail _ (.head _))) | exact .tail _ (.tail _ (.tail _ (.tail _ (.head _)))) | exact .tail _ (.tail _ (.tail _ (.tail _ (.tail _ (.head _))))) | exact .tail _ (.tail _ (.tail _ (.tail _ (.tail _ (.tail _ (.head _)))))) | exact .tail _ (.tail _ (.tail _ (.tail _ (.tail _ (.tail _ (.tail _ (.head _))))))) | exact .tail _ (.tail _ (.tail _ (.tail _ (.tail _ (.tail _ (.tail _ (.tail _ (.head _))))))))) Tryd.isAgg23 Tryd.sizeOf23 (by repeat constructor) ?_); (try simp only [Act.put, List.setIfInBounds_toArray, List.set_cons_zero, List.set_cons_succ]))
      | ((refine own_load1 (T := 3) HO rfl rfl rfl (by first | exact .head _ | exact .tail _ (.head _) | exact .tail _ (.tail _ (.head _)) | exact .tail _ (.tail _ (.tail _ (.head _))) | exact .tail _ (.tail _ (.tail _ (.tail _ (.head _)))) | exact .tail _ (.tail _ (.tail _ (.tail _ (.tail _ (.head _))))) | exact .tail _ (.tail _ (.tail _ (.tail _ (.tail _ (.tail _ (.head _)))))) | exact .tail _ (.tail _ (.tail _ (.tail _ (.tail _ (.tail _ (.tail _ (.head _))))))) | exact .tail _ (.tail _ (.tail _ (.tail _ (.tail _ (.tail _ (.tail _ (.tail _ (.head _))))))))) Tryd.isAgg3 rfl ?_); (try simp only [Act.put, List.setIfInBounds_toArray, List.set_cons_zero, List.set_cons_succ]))
      | ((refine own_store (T := 23) HO rfl rfl rfl rfl (by first | exact .here | exact .there (.here) | exact .there (.there (.here)) | exact .there (.there (.there (.here))) | exact .there (.there (.there (.there (.here)))) | exact .there (.there (.there (.there (.there (.here))))) | exact .there (.there (.there (.there (.there (.there (.here)))))) | exact .there (.there (.there (.there (.there (.there (.there (.here))))))) | exact .there (.there (.there (.there (.there (.there (.there (.there (.here))))))))) Tryd.sizeOf23 (by repeat constructor) rfl ?_); clear HO; intro wN HO; (try simp only [Act.put, List.setIfInBounds_toArray, List.set_cons_zero, List.set_cons_succ]))
      | ((refine own_store (T := 3) HO rfl rfl rfl rfl (by first | exact .here | exact .there (.here) | exact .there (.there (.here)) | exact .there (.there (.there (.here))) | exact .there (.there (.there (.there (.here)))) | exact .there (.there (.there (.there (.there (.here))))) | exact .there (.there (.there (.there (.there (.there (.here)))))) | exact .there (.there (.there (.there (.there (.there (.there (.here))))))) | exact .there (.there (.there (.there (.there (.there (.there (.there (.here))))))))) Tryd.sizeOf3 (by repeat constructor) rfl ?_); clear HO; intro wN HO; (try simp only [Act.put, List.setIfInBounds_toArray, List.set_cons_zero, List.set_cons_succ])))))
          go_ret
          exact ⟨rfl, HO.below⟩
      all_goals clear HE
      case' inl => have hw := upB_ways c1 c2 c3 c1 1 rfl
      case' inr.inl => have hw := upB_ways c1 c2 c3 c2 2 rfl
      case' inr.inr.inl => have hw := upB_ways c1 c2 c3 c3 3 rfl
      all_goals
        rcases hw with ⟨q, hu⟩ | ⟨q, q0, hu⟩ | ⟨q, q0, q1, hu⟩ | ⟨q, q0, q1, hu⟩
        all_goals
          rw [q]
          have HU := Lib.hid hu
          clear q hu
          go_wp2_with (first
      | ((with_reducible refine gate ?_); (first
      | ((refine own_box HO rfl rfl rfl ?_); clear HO; intro gN wN hgN HO; (simp only [List.nil_append, List.cons_append] at HO); (try simp only [Act.put, List.setIfInBounds_toArray, List.set_cons_zero, List.set_cons_succ]))
      | ((refine own_load1 (T := 3) HO rfl rfl rfl (by first | exact .head _ | exact .tail _ (.head _)) Tryd.isAgg3 rfl ?_); (try simp only [Act.put, List.setIfInBounds_toArray, List.set_cons_zero, List.set_cons_succ]))
      | ((refine own_store (T := 3) HO rfl rfl rfl rfl (by first | exact .here | exact .there (.here)) Tryd.sizeOf3 (by repeat constructor) rfl ?_); clear HO; intro wN HO; (try simp only [Act.put, List.setIfInBounds_toArray, List.set_cons_zero, List.set_cons_succ])))))
          go_round
          case rel => first | exact ⟨2, .inr (.inl rfl), rfl, by rw [← HU.out]; rfl⟩ | exact ⟨3, .inr (.inr (.inl rfl)), rfl, by rw [← HU.out]; rfl⟩ | exact ⟨4, .inr (.inr (.inr rfl)), rfl, by rw [← HU.out]; rfl⟩
          case measure => simp [intOf]
set_option maxRecDepth 100000 in
set_option maxHeartbeats 16000000 in
theorem styleNone_un (b0 b1 b2 b3 b4 b5 b6 : Bool) (u f b n c0 c1 c2 c3 f' : Int) (hn : (10 ≤ n ∧ n < 30) ∨ (50 ≤ n ∧ n < 90) ∨ 107 < n) (hA1 : AppAt (b0, b1, b2, b3, b4, b5, b6, u, f, b) (b0, b1, b2, b3, b4, b5, b6, u, f, b) [n] 1) (hA2 : AppAt (b0, b1, b2, b3, b4, b5, b6, u, f, b) (b0, b1, b2, b3, b4, b5, b6, u, f', b) [38, 2, c0, c1, c2, c3] 6) (hf' : f' = if G.rgbB c1 c2 c3 then 256 + c1 * 65536 + c2 * 256 + c3 else f) (w : World) (hT : Tab w) :
    Calls Tryd.prog 8 #[stV b0 b1 b2 b3 b4 b5 b6 u f b, .int .i64 n, .agg #[.int .i64 c0, .int .i64 c1, .int .i64 c2, .int .i64 c3]] w fun e w' => e = .returned (.bool true) ∧ Below w.heap.size w w' := by
  have hn' := hn
  clear hn
  rcases hn' with hn | hn | hn
  case' inl =>
    have k_n9 : decide (n ≤ 9) = false := decide_eq_false (by omega)
    have k_n30 : decide (30 ≤ n) = false := decide_eq_false (by omega)
    have k_n90 : decide (90 ≤ n) = false := decide_eq_false (by omega)
  case' inr.inl =>
    have k_n9 : decide (n ≤ 9) = false := decide_eq_false (by omega)
    have k_n30 : decide (30 ≤ n) = true := decide_eq_true (by omega)
    have k_n49 : decide (n ≤ 49) = false := decide_eq_false (by omega)
    have k_n90 : decide (90 ≤ n) = false := decide_eq_false (by omega)
  case' inr.inr =>
    have k_n9 : decide (n ≤ 9) = false := decide_eq_false (by omega)
    have k_n30 : decide (30 ≤ n) = true := decide_eq_true (by omega)
    have k_n49 : decide (n ≤ 49) = false := decide_eq_false (by omega)
    have k_n90 : decide (90 ≤ n) = true := decide_eq_true (by omega)
    have k_n107 : decide (n ≤ 107) = false := decide_eq_false (by omega)
  all_goals
    have HAW : Hid (∀ W, Below w.heap.size w W → Calls Tryd.prog 9 #[] W fun e w' => e = .returned (.bool true) ∧ Below W.heap.size W w') := Lib.hid (fun W hb => G.clavierlaw18_awake.calls 13000 true W (Tab.below hT hb) (G.awake18_is 13000 (by omega)))
    have HA1 := Lib.hid hA1
    have HA2 := Lib.hid hA2
    have HF := Lib.hid hf'
    have HE := style_equal b0 b1 b2 b3 b4 b5 b6 u f b
    have HO := Mine.start w
    clear hA1 hA2 hf' hn hT
    unfold AppAt at HA1 HA2
    unfold stV at *
    go_enter Tryd.func8, Tryd.ntmps8
    go_wp2_with (first
      | (go_at_call 9; refine (HAW.out _ HO.below).mono ?_; rintro eN wN ⟨rfl, hbN⟩; have HON := HO.call hbN; clear HO hbN; have HO := HON; clear HON)
      | (go_at_call 18; refine (HA1.out _ g1 g2 (HO.at (by first | exact .head _ | exact .tail _ (.head _) | exact .tail _ (.tail _ (.head _)) | exact .tail _ (.tail _ (.tail _ (.head _))) | exact .tail _ (.tail _ (.tail _ (.tail _ (.head _)))) | exact .tail _ (.tail _ (.tail _ (.tail _ (.tail _ (.head _))))) | exact .tail _ (.tail _ (.tail _ (.tail _ (.tail _ (.tail _ (.head _)))))) | exact .tail _ (.tail _ (.tail _ (.tail _ (.tail _ (.tail _ (.tail _ (.head _))))))) | exact .tail _ (.tail _ (.tail _ (.tail _ (.tail _ (.tail _ (.tail _ (.tail _ (.head _)))))))) | exact .tail _ (.tail _ (.tail _ (.tail _ (.tail _ (.tail _ (.tail _ (.tail _ (.tail _ (.head _))))))))) | exact .tail _ (.tail _ (.tail _ (.tail _ (.tail _ (.tail _ (.tail _ (.tail _ (.tail _ (.tail _ (.head _)))))))))) | exact .tail _ (.tail _ (.tail _ (.tail _ (.tail _ (.tail _ (.tail _ (.tail _ (.tail _ (.tail _ (.tail _ (.head _))))))))))))) (HO.at (by first | exact .head _ | exact .tail _ (.head _) | exact .tail _ (.tail _ (.head _)) | exact .tail _ (.tail _ (.tail _ (.head _))) | exact .tail _ (.tail _ (.tail _ (.tail _ (.head _)))) | exact .tail _ (.tail _ (.tail _ (.tail _ (.tail _ (.head _))))) | exact .tail _ (.tail _ (.tail _ (.tail _ (.tail _ (.tail _ (.head _)))))) | exact .tail _ (.tail _ (.tail _ (.tail _ (.tail _ (.tail _ (.tail _ (.head _))))))) | exact .tail _ (.tail _ (.tail _ (.tail _ (.tail _ (.tail _ (.tail _ (.tail _ (.head _)))))))) | exact .tail _ (.tail _ (.tail _ (.tail _ (.tail _ (.tail _ (.tail _ (.tail _ (.tail _ (.head _))))))))) | exact .tail _ (.tail _ (.tail _ (.tail _ (.tail _ (.tail _ (.tail _ (.tail _ (.tail _ (.tail _ (.head _)))))))))) | exact .tail _ (.tail _ (.tail _ (.tail _ (.tail _ (.tail _ (.tail _ (.tail _ (.tail _ (.tail _ (.tail _ (.head _)))))))))))))).mono ?_; clear HA1; rintro eN wN ⟨rfl, hbN⟩; have HON := HO.call hbN; clear HO hbN; have HO := HON; clear HON)
      | (go_at_call 18; refine (HA2.out _ g3 g4 (HO.at (by first | exact .head _ | exact .tail _ (.head _) | exact .tail _ (.tail _ (.head _)) | exact .tail _ (.tail _ (.tail _ (.head _))) | exact .tail _ (.tail _ (.tail _ (.tail _ (.head _)))) | exact .tail _ (.tail _ (.tail _ (.tail _ (.tail _ (.head _))))) | exact .tail _ (.tail _ (.tail _ (.tail _ (.tail _ (.tail _ (.head _)))))) | exact .tail _ (.tail _ (.tail _ (.tail _ (.tail _ (.tail _ (.tail _ (.head _))))))) | exact .tail _ (.tail _ (.tail _ (.tail _ (.tail _ (.tail _ (.tail _ (.tail _ (.head _)))))))) | exact .tail _ (.tail _ (.tail _ (.tail _ (.tail _ (.tail _ (.tail _ (.tail _ (.tail _ (.head _))))))))) | exact .tail _ (.tail _ (.tail _ (.tail _ (.tail _ (.tail _ (.tail _ (.tail _ (.tail _ (.tail _ (.head _)))))))))) | exact .tail _ (.tail _ (.tail _ (.tail _ (.tail _ (.tail _ (.tail _ (.tail _ (.tail _ (.tail _ (.tail _ (.head _))))))))))))) (HO.at (by first | exact .head _ | exact .tail _ (.head _) | exact .tail _ (.tail _ (.head _)) | exact .tail _ (.tail _ (.tail _ (.head _))) | exact .tail _ (.tail _ (.tail _ (.tail _ (.head _)))) | exact .tail _ (.tail _ (.tail _ (.tail _ (.tail _ (.head _))))) | exact .tail _ (.tail _ (.tail _ (.tail _ (.tail _ (.tail _ (.head _)))))) | exact .tail _ (.tail _ (.tail _ (.tail _ (.tail _ (.tail _ (.tail _ (.head _))))))) | exact .tail _ (.tail _ (.tail _ (.tail _ (.tail _ (.tail _ (.tail _ (.tail _ (.head _)))))))) | exact .tail _ (.tail _ (.tail _ (.tail _ (.tail _ (.tail _ (.tail _ (.tail _ (.tail _ (.head _))))))))) | exact .tail _ (.tail _ (.tail _ (.tail _ (.tail _ (.tail _ (.tail _ (.tail _ (.tail _ (.tail _ (.head _)))))))))) | exact .tail _ (.tail _ (.tail _ (.tail _ (.tail _ (.tail _ (.tail _ (.tail _ (.tail _ (.tail _ (.tail _ (.head _)))))))))))))).mono ?_; clear HA2; rintro eN wN ⟨rfl, hbN⟩; have HON := HO.call hbN; clear HO hbN; have HO := HON; clear HON)
      | ((with_reducible refine gate ?_); (first
      | ((with_reducible refine gateAt (N := 48) rfl ?_); refine own_lit HO rfl (n := 1) (cs := [.int .i64 n]) (T := 3) (by first | (go_simp; done) | (go_simp; rfl)) ?_; clear HO; intro g1 wN hgN HO; (simp only [List.nil_append, List.cons_append] at HO); (try simp only [Act.put, List.setIfInBounds_toArray, List.set_cons_zero, List.set_cons_succ]))
      | ((with_reducible refine gateAt (N := 49) rfl ?_); refine own_lit HO rfl (n := 1) (cs := [.slice (some ⟨g1, 0, none⟩) 1 1]) (T := 35) (by first | (go_simp; done) | (go_simp; rfl)) ?_; clear HO; intro g2 wN hgN HO; (simp only [List.nil_append, List.cons_append] at HO); (try simp only [Act.put, List.setIfInBounds_toArray, List.set_cons_zero, List.set_cons_succ]))
      | ((with_reducible refine gateAt (N := 60) rfl ?_); refine own_lit HO rfl (n := 6) (cs := [.int .i64 38, .int .i64 2, .int .i64 c0, .int .i64 c1, .int .i64 c2, .int .i64 c3]) (T := 3) (by first | (go_simp; done) | (go_simp; rfl)) ?_; clear HO; intro g3 wN hgN HO; (simp only [List.nil_append, List.cons_append] at HO); (try simp only [Act.put, List.setIfInBounds_toArray, List.set_cons_zero, List.set_cons_succ]))
      | ((with_reducible refine gateAt (N := 61) rfl ?_); refine own_lit HO rfl (n := 1) (cs := [.slice (some ⟨g3, 0, none⟩) 6 6]) (T := 35) (by first | (go_simp; done) | (go_simp; rfl)) ?_; clear HO; intro g4 wN hgN HO; (simp only [List.nil_append, List.cons_append] at HO); (try simp only [Act.put, List.setIfInBounds_toArray, List.set_cons_zero, List.set_cons_succ]))
      | ((refine own_eql (t := 23) rfl rfl rfl rfl (by kernel_rfl) HE.out ?_); (try simp only [Act.put, List.setIfInBounds_toArray, List.set_cons_zero, List.set_cons_succ]))
      | ((refine own_box HO rfl rfl rfl ?_); clear HO; intro gN wN hgN HO; (simp only [List.nil_append, List.cons_append] at HO); (try simp only [Act.put, List.setIfInBounds_toArray, List.set_cons_zero, List.set_cons_succ]))
      | ((refine own_alloc (T := 23) HO rfl rfl Tryd.zeroValue23 rfl ?_); clear HO; intro gN wN hgN HO; (simp only [List.nil_append, List.cons_append] at HO); (try simp only [Act.put, List.setIfInBounds_toArray, List.set_cons_zero, List.set_cons_succ]))
      | ((refine own_load (T := 23) HO rfl rfl rfl (by first | exact .head _ | exact .tail _ (.head _) | exact .tail _ (.tail _ (.head _)) | exact .tail _ (.tail _ (.tail _ (.head _))) | exact .tail _ (.tail _ (.tail _ (.tail _ (.head _)))) | exact .tail _ (.tail _ (.tail _ (.tail _ (.tail _ (.head _))))) | exact .tail _ (.tail _ (.tail _ (.tail _ (.tail _ (.tail _ (.head _)))))) | exact .tail _ (.tail _ (.tail _ (.tail _ (.tail _ (.tail _ (.tail _ (.head _))))))) | exact .tail _ (.tail _ (.tail _ (.tail _ (.tail _ (.tail _ (.tail _ (.tail _ (.head _)))))))) | exact .tail _ (.tail _ (.tail _ (.tail _ (.tail _ (.tail _ (.tail _ (.tail _ (.tail _ (.head _))))))))) | exact .tail _ (.tail _ (.tail _ (.tail _ (.tail _ (.tail _ (.tail _ (.tail _ (.tail _ (.tail _ (.head _)))))))))) | exact .tail _ (.tail _ (.tail _ (.tail _ (.tail _ (.tail _ (.tail _ (.tail _ (.tail _ (.tail _ (.tail _ (.head _)))))))))))) Tryd.isAgg23 Tryd.sizeOf23 (by repeat constructor) ?_); (try simp only [Act.put, List.setIfInBounds_toArray, List.set_cons_zero, List.set_cons_succ]))
      | ((refine own_load (T := 39) HO rfl rfl rfl (by first | exact .head _ | exact .tail _ (.head _) | exact .tail _ (.tail _ (.head _)) | exact .tail _ (.tail _ (.tail _ (.head _))) | exact .tail _ (.tail _ (.tail _ (.tail _ (.head _)))) | exact .tail _ (.tail _ (.tail _ (.tail _ (.tail _ (.head _))))) | exact .tail _ (.tail _ (.tail _ (.tail _ (.tail _ (.tail _ (.head _)))))) | exact .tail _ (.tail _ (.tail _ (.tail _ (.tail _ (.tail _ (.tail _ (.head _))))))) | exact .tail _ (.tail _ (.tail _ (.tail _ (.tail _ (.tail _ (.tail _ (.tail _ (.head _)))))))) | exact .tail _ (.tail _ (.tail _ (.tail _ (.tail _ (.tail _ (.tail _ (.tail _ (.tail _ (.head _))))))))) | exact .tail _ (.tail _ (.tail _ (.tail _ (.tail _ (.tail _ (.tail _ (.tail _ (.tail _ (.tail _ (.head _)))))))))) | exact .tail _ (.tail _ (.tail _ (.tail _ (.tail _ (.tail _ (.tail _ (.tail _ (.tail _ (.tail _ (.tail _ (.head _)))))))))))) Tryd.isAgg39 Tryd.sizeOf39 (by repeat constructor) ?_); (try simp only [Act.put, List.setIfInBounds_toArray, List.set_cons_zero, List.set_cons_succ]))
      | ((refine own_load1 (T := 3) HO rfl rfl rfl (by first | exact .head _ | exact .tail _ (.head _) | exact .tail _ (.tail _ (.head _)) | exact .tail _ (.tail _ (.tail _ (.head _))) | exact .tail _ (.tail _ (.tail _ (.tail _ (.head _)))) | exact .tail _ (.tail _ (.tail _ (.tail _ (.tail _ (.head _))))) | exact .tail _ (.tail _ (.tail _ (.tail _ (.tail _ (.tail _ (.head _)))))) | exact .tail _ (.tail _ (.tail _ (.tail _ (.tail _ (.tail _ (.tail _ (.head _))))))) | exact .tail _ (.tail _ (.tail _ (.tail _ (.tail _ (.tail _ (.tail _ (.tail _ (.head _)))))))) | exact .tail _ (.tail _ (.tail _ (.tail _ (.tail _ (.tail _ (.tail _ (.tail _ (.tail _ (.head _))))))))) | exact .tail _ (.tail _ (.tail _ (.tail _ (.tail _ (.tail _ (.tail _ (.tail _ (.tail _ (.tail _ (.head _)))))))))) | exact .tail _ (.tail _ (.tail _ (.tail _ (.tail _ (.tail _ (.tail _ (.tail _ (.tail _ (.tail _ (.tail _ (.head _)))))))))))) Tryd.isAgg3 rfl ?_); (try simp only [Act.put, List.setIfInBounds_toArray, List.set_cons_zero, List.set_cons_succ]))
      | ((refine own_store (T := 23) HO rfl rfl rfl rfl (by first | exact .here | exact .there (.here) | exact .there (.there (.here)) | exact .there (.there (.there (.here))) | exact .there (.there (.there (.there (.here)))) | exact .there (.there (.there (.there (.there (.here))))) | exact .there (.there (.there (.there (.there (.there (.here)))))) | exact .there (.there (.there (.there (.there (.there (.there (.here))))))) | exact .there (.there (.there (.there (.there (.there (.there (.there (.here)))))))) | exact .there (.there (.there (.there (.there (.there (.there (.there (.there (.here))))))))) | exact .there (.there (.there (.there (.there (.there (.there (.there (.there (.there (.here)))))))))) | exact .there (.there (.there (.there (.there (.there (.there (.there (.there (.there (.there (.here)))))))))))) Tryd.sizeOf23 (by repeat constructor) rfl ?_); clear HO; intro wN HO; (try simp only [Act.put, List.setIfInBounds_toArray, List.set_cons_zero, List.set_cons_succ]))
      | ((refine own_store (T := 39) HO rfl rfl rfl rfl (by first | exact .here | exact .there (.here) | exact .there (.there (.here)) | exact .there (.there (.there (.here))) | exact .there (.there (.there (.there (.here)))) | exact .there (.there (.there (.there (.there (.here))))) | exact .there (.there (.there (.there (.there (.there (.here)))))) | exact .there (.there (.there (.there (.there (.there (.there (.here))))))) | exact .there (.there (.there (.there (.there (.there (.there (.there (.here)))))))) | exact .there (.there (.there (.there (.there (.there (.there (.there (.there (.here))))))))) | exact .there (.there (.there (.there (.there (.there (.there (.there (.there (.there (.here)))))))))) | exact .there (.there (.there (.there (.there (.there (.there (.there (.there (.there (.there (.here)))))))))))) Tryd.sizeOf39 (by repeat constructor) rfl ?_); clear HO; intro wN HO; (try simp only [Act.put, List.setIfInBounds_toArray, List.set_cons_zero, List.set_cons_succ]))
      | ((refine own_store (T := 3) HO rfl rfl rfl rfl (by first | exact .here | exact .there (.here) | exact .there (.there (.here)) | exact .there (.there (.there (.here))) | exact .there (.there (.there (.there (.here)))) | exact .there (.there (.there (.there (.there (.here))))) | exact .there (.there (.there (.there (.there (.there (.here)))))) | exact .there (.there (.there (.there (.there (.there (.there (.here))))))) | exact .there (.there (.there (.there (.there (.there (.there (.there (.here)))))))) | exact .there (.there (.there (.there (.there (.there (.there (.there (.there (.here))))))))) | exact .there (.there (.there (.there (.there (.there (.there (.there (.there (.there (.here)))))))))) | exact .there (.there (.there (.there (.there (.there (.there (.there (.there (.there (.there (.here)))))))))))) Tryd.sizeOf3 (by repeat constructor) rfl ?_); clear HO; intro wN HO; (try simp only [Act.put, List.setIfInBounds_toArray, List.set_cons_zero, List.set_cons_succ])))))
    simp [Act.eval] at HO
    have HFF : Hid (∀ x, (if G.rgbB c1 c2 c3 then 256 + c1 * 65536 + c2 * 256 + c3 else f) = x → f' = x) := Lib.hid (fun x h => HF.out.trans h)
    clear HF
    go_loop [12, 13] (fun r i => ∃ z : Int, (z = 1 ∨ z = 2 ∨ z = 3 ∨ z = 4) ∧ i = .int .i64 z ∧ r = .bool (upB c1 c2 c3 z)) (fun _ i => (4 - intOf i).toNat)
    case atStart => exact ⟨1, .inl rfl, rfl, rfl⟩
    case round =>
      obtain ⟨z, hz, rfl, rfl⟩ := hrel
      rcases hz with rfl | rfl | rfl | rfl
      case inr.inr.inr =>
        have hR : upB c1 c2 c3 4 = G.rgbB c1 c2 c3 := upB_all c1 c2 c3
        rw [hR]
        clear hR
        cases hr : G.rgbB c1 c2 c3 with
        | false =>
          have e := HFF.out f (by rw [hr]; rfl)
          subst e
          clear HFF hr
          go_wp2_with (first
      | ((with_reducible refine gate ?_); (first
      | ((refine own_eql (t := 23) rfl rfl rfl rfl (by kernel_rfl) HE.out ?_); (try simp only [Act.put, List.setIfInBounds_toArray, List.set_cons_zero, List.set_cons_succ]))
      | ((refine own_box HO rfl rfl rfl ?_); clear HO; intro gN wN hgN HO; (simp only [List.nil_append, List.cons_append] at HO); (try simp only [Act.put, List.setIfInBounds_toArray, List.set_cons_zero, List.set_cons_succ]))
      | ((refine own_load (T := 23) HO rfl rfl rfl (by first | exact .head _ | exact .tail _ (.head _) | exact .tail _ (.tail _ (.head _)) | exact .tail _ (.tail _ (.tail _ (.head _))) | exact .tail _ (.tail _ (.tail _ (.tail _ (.head _)))) | exact .tail _ (.tail _ (.tail _ (.tail _ (.tail _ (.head _))))) | exact .tail _ (.tail _ (.tail _ (.tail _ (.tail _ (.tail _ (.head _)))))) | exact .tail _ (.tail _ (.tail _ (.tail _ (.tail _ (.tail _ (.tail _ (.head _))))))) | exact .tail _ (.tail _ (.tail _ (.tail _ (.tail _ (.tail _ (.tail _ (.tail _ (.head _))))))))) Tryd.isAgg23 Tryd.sizeOf23 (by repeat constructor) ?_); (try simp only [Act.put, List.setIfInBounds_toArray, List.set_cons_zero, List.set_cons_succ]))
      | ((refine own_load1 (T := 3) HO rfl rfl rfl (by first | exact .head _ | exact .tail _ (.head _) | exact .tail _ (.tail _ (.head _)) | exact .tail _ (.tail _ (.tail _ (.head _))) | exact .tail _ (.tail _ (.tail _ (.tail _ (.head _)))) | exact .tail _ (.tail _ (.tail _ (.tail _ (.tail _ (.head _))))) | exact .tail _ (.tail _ (.tail _ (.tail _ (.tail _ (.tail _ (.head _)))))) | exact .tail _ (.tail _ (.tail _ (.tail _ (.tail _ (.tail _ (.tail _ (.head _))))))) | exact .tail _ (.tail _ (.tail _ (.tail _ (.tail _ (.tail _ (.tail _ (.tail _ (.head _))))))))) Tryd.isAgg3 rfl ?_); (try simp only [Act.put, List.setIfInBounds_toArray, List.set_cons_zero, List.set_cons_succ]))
      | ((refine own_store (T := 23) HO rfl rfl rfl rfl (by first | exact .here | exact .there (.here) | exact .there (.there (.here)) | exact .there (.there (.there (.here))) | exact .there (.there (.there (.there (.here)))) | exact .there (.there (.there (.there (.there (.here))))) | exact .there (.there (.there (.there (.there (.there (.here)))))) | exact .there (.there (.there (.there (.there (.there (.there (.here))))))) | exact .there (.there (.there (.there (.there (.there (.there (.there (.here))))))))) Tryd.sizeOf23 (by repeat constructor) rfl ?_); clear HO; intro wN HO; (try simp only [Act.put, List.setIfInBounds_toArray, List.set_cons_zero, List.set_cons_succ]))
      | ((refine own_store (T := 3) HO rfl rfl rfl rfl (by first | exact .here | exact .there (.here) | exact .there (.there (.here)) | exact .there (.there (.there (.here))) | exact .there (.there (.there (.there (.here)))) | exact .there (.there (.there (.there (.there (.here))))) | exact .there (.there (.there (.there (.there (.there (.here)))))) | exact .there (.there (.there (.there (.there (.there (.there (.here))))))) | exact .there (.there (.there (.there (.there (.there (.there (.there (.here))))))))) Tryd.sizeOf3 (by repeat constructor) rfl ?_); clear HO; intro wN HO; (try simp only [Act.put, List.setIfInBounds_toArray, List.set_cons_zero, List.set_cons_succ])))))
          go_ret
          exact ⟨rfl, HO.below⟩
        | true =>
          have e := HFF.out _ (by rw [hr, if_pos rfl])
          simp only [G.rgbB, byteB, Bool.and_eq_true, decide_eq_true_eq] at hr
          obtain ⟨⟨l1, h1⟩, ⟨l2, h2⟩, l3, h3⟩ := hr
          have w1 : IntKind.i64.wrap (65536 * c1) = 65536 * c1 := IntWalk.i64_in _ (by omega)
          have w2 : IntKind.i64.wrap (256 + 65536 * c1) = 256 + 65536 * c1 := IntWalk.i64_in _ (by omega)
          have w3 : IntKind.i64.wrap (256 * c2) = 256 * c2 := IntWalk.i64_in _ (by omega)
          have w4 : IntKind.i64.wrap (256 + 65536 * c1 + 256 * c2) = 256 + 65536 * c1 + 256 * c2 := IntWalk.i64_in _ (by omega)
          have w5 : IntKind.i64.wrap (256 + 65536 * c1 + 256 * c2 + c3) = 256 + 65536 * c1 + 256 * c2 + c3 := IntWalk.i64_in _ (by omega)
          have HEQ : (f' == 256 + 65536 * c1 + 256 * c2 + c3) = true := beq_iff_eq.2 (by omega)
          clear HFF e l1 h1 l2 h2 l3 h3
          go_wp2_with (first
      | ((with_reducible refine gate ?_); (first
      | ((refine own_eql (t := 23) rfl rfl rfl rfl (by kernel_rfl) HE.out ?_); (try simp only [Act.put, List.setIfInBounds_toArray, List.set_cons_zero, List.set_cons_succ]))
      | ((refine own_box HO rfl rfl rfl ?_); clear HO; intro gN wN hgN HO; (simp only [List.nil_append, List.cons_append] at HO); (try simp only [Act.put, List.setIfInBounds_toArray, List.set_cons_zero, List.set_cons_succ]))
      | ((refine own_load (T := 23) HO rfl rfl rfl (by first | exact .head _ | exact .tail _ (.head _) | exact .tail _ (.tail _ (.head _)) | exact .tail _ (.tail _ (.tail _ (.head _))) | exact .tail _ (.tail _ (.tail _ (.tail _ (.head _)))) | exact .tail _ (.tail _ (.tail _ (.tail _ (.tail _ (.head _))))) | exact .tail _ (.tail _ (.tail _ (.tail _ (.tail _ (.tail _ (.head _)))))) | exact .tail _ (.tail _ (.tail _ (.tail _ (.tail _ (.tail _ (.tail _ (.head _))))))) | exact .tail _ (.tail _ (.tail _ (.tail _ (.tail _ (.tail _ (.tail _ (.tail _ (.head _))))))))) Tryd.isAgg23 Tryd.sizeOf23 (by repeat constructor) ?_); (try simp only [Act.put, List.setIfInBounds_toArray, List.set_cons_zero, List.set_cons_succ]))
      | ((refine own_load1 (T := 3) HO rfl rfl rfl (by first | exact .head _ | exact .tail _ (.head _) | exact .tail _ (.tail _ (.head _)) | exact .tail _ (.tail _ (.tail _ (.head _))) | exact .tail _ (.tail _ (.tail _ (.tail _ (.head _)))) | exact .tail _ (.tail _ (.tail _ (.tail _ (.tail _ (.head _))))) | exact .tail _ (.tail _ (.tail _ (.tail _ (.tail _ (.tail _ (.head _)))))) | exact .tail _ (.tail _ (.tail _ (.tail _ (.tail _ (.tail _ (.tail _ (.head _))))))) | exact .tail _ (.tail _ (.tail _ (.tail _ (.tail _ (.tail _ (.tail _ (.tail _ (.head _))))))))) Tryd.isAgg3 rfl ?_); (try simp only [Act.put, List.setIfInBounds_toArray, List.set_cons_zero, List.set_cons_succ]))
      | ((refine own_store (T := 23) HO rfl rfl rfl rfl (by first | exact .here | exact .there (.here) | exact .there (.there (.here)) | exact .there (.there (.there (.here))) | exact .there (.there (.there (.there (.here)))) | exact .there (.there (.there (.there (.there (.here))))) | exact .there (.there (.there (.there (.there (.there (.here)))))) | exact .there (.there (.there (.there (.there (.there (.there (.here))))))) | exact .there (.there (.there (.there (.there (.there (.there (.there (.here))))))))) Tryd.sizeOf23 (by repeat constructor) rfl ?_); clear HO; intro wN HO; (try simp only [Act.put, List.setIfInBounds_toArray, List.set_cons_zero, List.set_cons_succ]))
      | ((refine own_store (T := 3) HO rfl rfl rfl rfl (by first | exact .here | exact .there (.here) | exact .there (.there (.here)) | exact .there (.there (.there (.here))) | exact .there (.there (.there (.there (.here)))) | exact .there (.there (.there (.there (.there (.here))))) | exact .there (.there (.there (.there (.there (.there (.here)))))) | exact .there (.there (.there (.there (.there (.there (.there (.here))))))) | exact .there (.there (.there (.there (.there (.there (.there (.there (.here))))))))) Tryd.sizeOf3 (by repeat constructor) rfl ?_); clear HO; intro wN HO; (try simp only [Act.put, List.setIfInBounds_toArray, List.set_cons_zero, List.set_cons_succ])))))
          go_ret
          exact ⟨rfl, HO.below⟩
      all_goals clear HE
      case' inl => have hw := upB_ways c1 c2 c3 c1 1 rfl
      case' inr.inl => have hw := upB_ways c1 c2 c3 c2 2 rfl
      case' inr.inr.inl => have hw := upB_ways c1 c2 c3 c3 3 rfl
      all_goals
        rcases hw with ⟨q, hu⟩ | ⟨q, q0, hu⟩ | ⟨q, q0, q1, hu⟩ | ⟨q, q0, q1, hu⟩
        all_goals
          rw [q]
          have HU := Lib.hid hu
          clear q hu
          go_wp2_with (first
      | ((with_reducible refine gate ?_); (first
      | ((refine own_box HO rfl rfl rfl ?_); clear HO; intro gN wN hgN HO; (simp only [List.nil_append, List.cons_append] at HO); (try simp only [Act.put, List.setIfInBounds_toArray, List.set_cons_zero, List.set_cons_succ]))
      | ((refine own_load1 (T := 3) HO rfl rfl rfl (by first | exact .head _ | exact .tail _ (.head _)) Tryd.isAgg3 rfl ?_); (try simp only [Act.put, List.setIfInBounds_toArray, List.set_cons_zero, List.set_cons_succ]))
      | ((refine own_store (T := 3) HO rfl rfl rfl rfl (by first | exact .here | exact .there (.here)) Tryd.sizeOf3 (by repeat constructor) rfl ?_); clear HO; intro wN HO; (try simp only [Act.put, List.setIfInBounds_toArray, List.set_cons_zero, List.set_cons_succ])))))
          go_round
          case rel => first | exact ⟨2, .inr (.inl rfl), rfl, by rw [← HU.out]; rfl⟩ | exact ⟨3, .inr (.inr (.inl rfl)), rfl, by rw [← HU.out]; rfl⟩ | exact ⟨4, .inr (.inr (.inr rfl)), rfl, by rw [← HU.out]; rfl⟩
          case measure => simp [intOf]
set_option maxRecDepth 100000 in
set_option maxHeartbeats 16000000 in
theorem styleNone_B (b0 b1 b2 b3 b4 b5 b6 : Bool) (u f b n c0 c1 c2 c3 f' : Int) (hn : n = 6) (hA1 : AppAt (b0, b1, b2, b3, b4, b5, b6, u, f, b) (b0, b1, b2, b3, b4, b5, b6, u, f, b) [n] 1) (hA2 : AppAt (b0, b1, b2, b3, b4, b5, b6, u, f, b) (b0, b1, b2, b3, b4, b5, b6, u, f', b) [38, 2, c0, c1, c2, c3] 6) (hf' : f' = if G.rgbB c1 c2 c3 then 256 + c1 * 65536 + c2 * 256 + c3 else f) (w : World) (hT : Tab w) :
    Calls Tryd.prog 8 #[stV b0 b1 b2 b3 b4 b5 b6 u f b, .int .i64 n, .agg #[.int .i64 c0, .int .i64 c1, .int .i64 c2, .int .i64 c3]] w fun e w' => e = .returned (.bool true) ∧ Below w.heap.size w w' := by
  subst hn
  have HAW : Hid (∀ W, Below w.heap.size w W → Calls Tryd.prog 9 #[] W fun e w' => e = .returned (.bool true) ∧ Below W.heap.size W w') := Lib.hid (fun W hb => G.clavierlaw18_awake.calls 13000 true W (Tab.below hT hb) (G.awake18_is 13000 (by omega)))
  have HA1 := Lib.hid hA1
  have HA2 := Lib.hid hA2
  have HF := Lib.hid hf'
  have HE := style_equal b0 b1 b2 b3 b4 b5 b6 u f b
  have HO := Mine.start w
  clear hA1 hA2 hf' hT
  unfold AppAt at HA1 HA2
  unfold stV at *
  go_enter Tryd.func8, Tryd.ntmps8
  go_wp2_with (first
      | (go_at_call 9; refine (HAW.out _ HO.below).mono ?_; rintro eN wN ⟨rfl, hbN⟩; have HON := HO.call hbN; clear HO hbN; have HO := HON; clear HON)
      | (go_at_call 18; refine (HA1.out _ g1 g2 (HO.at (by first | exact .head _ | exact .tail _ (.head _) | exact .tail _ (.tail _ (.head _)) | exact .tail _ (.tail _ (.tail _ (.head _))) | exact .tail _ (.tail _ (.tail _ (.tail _ (.head _)))) | exact .tail _ (.tail _ (.tail _ (.tail _ (.tail _ (.head _))))) | exact .tail _ (.tail _ (.tail _ (.tail _ (.tail _ (.tail _ (.head _)))))) | exact .tail _ (.tail _ (.tail _ (.tail _ (.tail _ (.tail _ (.tail _ (.head _))))))) | exact .tail _ (.tail _ (.tail _ (.tail _ (.tail _ (.tail _ (.tail _ (.tail _ (.head _)))))))) | exact .tail _ (.tail _ (.tail _ (.tail _ (.tail _ (.tail _ (.tail _ (.tail _ (.tail _ (.head _))))))))) | exact .tail _ (.tail _ (.tail _ (.tail _ (.tail _ (.tail _ (.tail _ (.tail _ (.tail _ (.tail _ (.head _)))))))))) | exact .tail _ (.tail _ (.tail _ (.tail _ (.tail _ (.tail _ (.tail _ (.tail _ (.tail _ (.tail _ (.tail _ (.head _))))))))))))) (HO.at (by first | exact .head _ | exact .tail _ (.head _) | exact .tail _ (.tail _ (.head _)) | exact .tail _ (.tail _ (.tail _ (.head _))) | exact .tail _ (.tail _ (.tail _ (.tail _ (.head _)))) | exact .tail _ (.tail _ (.tail _ (.tail _ (.tail _ (.head _))))) | exact .tail _ (.tail _ (.tail _ (.tail _ (.tail _ (.tail _ (.head _)))))) | exact .tail _ (.tail _ (.tail _ (.tail _ (.tail _ (.tail _ (.tail _ (.head _))))))) | exact .tail _ (.tail _ (.tail _ (.tail _ (.tail _ (.tail _ (.tail _ (.tail _ (.head _)))))))) | exact .tail _ (.tail _ (.tail _ (.tail _ (.tail _ (.tail _ (.tail _ (.tail _ (.tail _ (.head _))))))))) | exact .tail _ (.tail _ (.tail _ (.tail _ (.tail _ (.tail _ (.tail _ (.tail _ (.tail _ (.tail _ (.head _)))))))))) | exact .tail _ (.tail _ (.tail _ (.tail _ (.tail _ (.tail _ (.tail _ (.tail _ (.tail _ (.tail _ (.tail _ (.head _)))))))))))))).mono ?_; clear HA1; rintro eN wN ⟨rfl, hbN⟩; have HON := HO.call hbN; clear HO hbN; have HO := HON; clear HON)
      | (go_at_call 18; refine (HA2.out _ g3 g4 (HO.at (by first | exact .head _ | exact .tail _ (.head _) | exact .tail _ (.tail _ (.head _)) | exact .tail _ (.tail _ (.tail _ (.head _))) | exact .tail _ (.tail _ (.tail _ (.tail _ (.head _)))) | exact .tail _ (.tail _ (.tail _ (.tail _ (.tail _ (.head _))))) | exact .tail _ (.tail _ (.tail _ (.tail _ (.tail _ (.tail _ (.head _)))))) | exact .tail _ (.tail _ (.tail _ (.tail _ (.tail _ (.tail _ (.tail _ (.head _))))))) | exact .tail _ (.tail _ (.tail _ (.tail _ (.tail _ (.tail _ (.tail _ (.tail _ (.head _)))))))) | exact .tail _ (.tail _ (.tail _ (.tail _ (.tail _ (.tail _ (.tail _ (.tail _ (.tail _ (.head _))))))))) | exact .tail _ (.tail _ (.tail _ (.tail _ (.tail _ (.tail _ (.tail _ (.tail _ (.tail _ (.tail _ (.head _)))))))))) | exact .tail _ (.tail _ (.tail _ (.tail _ (.tail _ (.tail _ (.tail _ (.tail _ (.tail _ (.tail _ (.tail _ (.head _))))))))))))) (HO.at (by first | exact .head _ | exact .tail _ (.head _) | exact .tail _ (.tail _ (.head _)) | exact .tail _ (.tail _ (.tail _ (.head _))) | exact .tail _ (.tail _ (.tail _ (.tail _ (.head _)))) | exact .tail _ (.tail _ (.tail _ (.tail _ (.tail _ (.head _))))) | exact .tail _ (.tail _ (.tail _ (.tail _ (.tail _ (.tail _ (.head _)))))) | exact .tail _ (.tail _ (.tail _ (.tail _ (.tail _ (.tail _ (.tail _ (.head _))))))) | exact .tail _ (.tail _ (.tail _ (.tail _ (.tail _ (.tail _ (.tail _ (.tail _ (.head _)))))))) | exact .tail _ (.tail _ (.tail _ (.tail _ (.tail _ (.tail _ (.tail _ (.tail _ (.tail _ (.head _))))))))) | exact .tail _ (.tail _ (.tail _ (.tail _ (.tail _ (.tail _ (.tail _ (.tail _ (.tail _ (.tail _ (.head _)))))))))) | exact .tail _ (.tail _ (.tail _ (.tail _ (.tail _ (.tail _ (.tail _ (.tail _ (.tail _ (.tail _ (.tail _ (.head _)))))))))))))).mono ?_; clear HA2; rintro eN wN ⟨rfl, hbN⟩; have HON := HO.call hbN; clear HO hbN; have HO := HON; clear HON)
      | ((with_reducible refine gate ?_); (first
      | ((with_reducible refine gateAt (N := 48) rfl ?_); refine own_lit HO rfl (n := 1) (cs := [.int .i64 6]) (T := 3) (by first | (go_simp; done) | (go_simp; rfl)) ?_; clear HO; intro g1 wN hgN HO; (simp only [List.nil_append, List.cons_append] at HO); (try simp only [Act.put, List.setIfInBounds_toArray, List.set_cons_zero, List.set_cons_succ]))
      | ((with_reducible refine gateAt (N := 49) rfl ?_); refine own_lit HO rfl (n := 1) (cs := [.slice (some ⟨g1, 0, none⟩) 1 1]) (T := 35) (by first | (go_simp; done) | (go_simp; rfl)) ?_; clear HO; intro g2 wN hgN HO; (simp only [List.nil_append, List.cons_append] at HO); (try simp only [Act.put, List.setIfInBounds_toArray, List.set_cons_zero, List.set_cons_succ]))
      | ((with_reducible refine gateAt (N := 60) rfl ?_); refine own_lit HO rfl (n := 6) (cs := [.int .i64 38, .int .i64 2, .int .i64 c0, .int .i64 c1, .int .i64 c2, .int .i64 c3]) (T := 3) (by first | (go_simp; done) | (go_simp; rfl)) ?_; clear HO; intro g3 wN hgN HO; (simp only [List.nil_append, List.cons_append] at HO); (try simp only [Act.put, List.setIfInBounds_toArray, List.set_cons_zero, List.set_cons_succ]))
      | ((with_reducible refine gateAt (N := 61) rfl ?_); refine own_lit HO rfl (n := 1) (cs := [.slice (some ⟨g3, 0, none⟩) 6 6]) (T := 35) (by first | (go_simp; done) | (go_simp; rfl)) ?_; clear HO; intro g4 wN hgN HO; (simp only [List.nil_append, List.cons_append] at HO); (try simp only [Act.put, List.setIfInBounds_toArray, List.set_cons_zero, List.set_cons_succ]))
      | ((refine own_eql (t := 23) rfl rfl rfl rfl (by kernel_rfl) HE.out ?_); (try simp only [Act.put, List.setIfInBounds_toArray, List.set_cons_zero, List.set_cons_succ]))
      | ((refine own_box HO rfl rfl rfl ?_); clear HO; intro gN wN hgN HO; (simp only [List.nil_append, List.cons_append] at HO); (try simp only [Act.put, List.setIfInBounds_toArray, List.set_cons_zero, List.set_cons_succ]))
      | ((refine own_alloc (T := 23) HO rfl rfl Tryd.zeroValue23 rfl ?_); clear HO; intro gN wN hgN HO; (simp only [List.nil_append, List.cons_append] at HO); (try simp only [Act.put, List.setIfInBounds_toArray, List.set_cons_zero, List.set_cons_succ]))
      | ((refine own_load (T := 23) HO rfl rfl rfl (by first | exact .head _ | exact .tail _ (.head _) | exact .tail _ (.tail _ (.head _)) | exact .tail _ (.tail _ (.tail _ (.head _))) | exact .tail _ (.tail _ (.tail _ (.tail _ (.head _)))) | exact .tail _ (.tail _ (.tail _ (.tail _ (.tail _ (.head _))))) | exact .tail _ (.tail _ (.tail _ (.tail _ (.tail _ (.tail _ (.head _)))))) | exact .tail _ (.tail _ (.tail _ (.tail _ (.tail _ (.tail _ (.tail _ (.head _))))))) | exact .tail _ (.tail _ (.tail _ (.tail _ (.tail _ (.tail _ (.tail _ (.tail _ (.head _)))))))) | exact .tail _ (.tail _ (.tail _ (.tail _ (.tail _ (.tail _ (.tail _ (.tail _ (.tail _ (.head _))))))))) | exact .tail _ (.tail _ (.tail _ (.tail _ (.tail _ (.tail _ (.tail _ (.tail _ (.tail _ (.tail _ (.head _)))))))))) | exact .tail _ (.tail _ (.tail _ (.tail _ (.tail _ (.tail _ (.tail _ (.tail _ (.tail _ (.tail _ (.tail _ (.head _)))))))))))) Tryd.isAgg23 Tryd.sizeOf23 (by repeat constructor) ?_); (try simp only [Act.put, List.setIfInBounds_toArray, List.set_cons_zero, List.set_cons_succ]))
      | ((refine own_load (T := 39) HO rfl rfl rfl (by first | exact .head _ | exact .tail _ (.head _) | exact .tail _ (.tail _ (.head _)) | exact .tail _ (.tail _ (.tail _ (.head _))) | exact .tail _ (.tail _ (.tail _ (.tail _ (.head _)))) | exact .tail _ (.tail _ (.tail _ (.tail _ (.tail _ (.head _))))) | exact .tail _ (.tail _ (.tail _ (.tail _ (.tail _ (.tail _ (.head _)))))) | exact .tail _ (.tail _ (.tail _ (.tail _ (.tail _ (.tail _ (.tail _ (.head _))))))) | exact .tail _ (.tail _ (.tail _ (.tail _ (.tail _ (.tail _ (.tail _ (.tail _ (.head _)))))))) | exact .tail _ (.tail _ (.tail _ (.tail _ (.tail _ (.tail _ (.tail _ (.tail _ (.tail _ (.head _))))))))) | exact .tail _ (.tail _ (.tail _ (.tail _ (.tail _ (.tail _ (.tail _ (.tail _ (.tail _ (.tail _ (.head _)))))))))) | exact .tail _ (.tail _ (.tail _ (.tail _ (.tail _ (.tail _ (.tail _ (.tail _ (.tail _ (.tail _ (.tail _ (.head _)))))))))))) Tryd.isAgg39 Tryd.sizeOf39 (by repeat constructor) ?_); (try simp only [Act.put, List.setIfInBounds_toArray, List.set_cons_zero, List.set_cons_succ]))
      | ((refine own_load1 (T := 3) HO rfl rfl rfl (by first | exact .head _ | exact .tail _ (.head _) | exact .tail _ (.tail _ (.head _)) | exact .tail _ (.tail _ (.tail _ (.head _))) | exact .tail _ (.tail _ (.tail _ (.tail _ (.head _)))) | exact .tail _ (.tail _ (.tail _ (.tail _ (.tail _ (.head _))))) | exact .tail _ (.tail _ (.tail _ (.tail _ (.tail _ (.tail _ (.head _)))))) | exact .tail _ (.tail _ (.tail _ (.tail _ (.tail _ (.tail _ (.tail _ (.head _))))))) | exact .tail _ (.tail _ (.tail _ (.tail _ (.tail _ (.tail _ (.tail _ (.tail _ (.head _)))))))) | exact .tail _ (.tail _ (.tail _ (.tail _ (.tail _ (.tail _ (.tail _ (.tail _ (.tail _ (.head _))))))))) | exact .tail _ (.tail _ (.tail _ (.tail _ (.tail _ (.tail _ (.tail _ (.tail _ (.tail _ (.tail _ (.head _)))))))))) | exact .tail _ (.tail _ (.tail _ (.tail _ (.tail _ (.tail _ (.tail _ (.tail _ (.tail _ (.tail _ (.tail _ (.head _)))))))))))) Tryd.isAgg3 rfl ?_); (try simp only [Act.put, List.setIfInBounds_toArray, List.set_cons_zero, List.set_cons_succ]))
      | ((refine own_store (T := 23) HO rfl rfl rfl rfl (by first | exact .here | exact .there (.here) | exact .there (.there (.here)) | exact .there (.there (.there (.here))) | exact .there (.there (.there (.there (.here)))) | exact .there (.there (.there (.there (.there (.here))))) | exact .there (.there (.there (.there (.there (.there (.here)))))) | exact .there (.there (.there (.there (.there (.there (.there (.here))))))) | exact .there (.there (.there (.there (.there (.there (.there (.there (.here)))))))) | exact .there (.there (.there (.there (.there (.there (.there (.there (.there (.here))))))))) | exact .there (.there (.there (.there (.there (.there (.there (.there (.there (.there (.here)))))))))) | exact .there (.there (.there (.there (.there (.there (.there (.there (.there (.there (.there (.here)))))))))))) Tryd.sizeOf23 (by repeat constructor) rfl ?_); clear HO; intro wN HO; (try simp only [Act.put, List.setIfInBounds_toArray, List.set_cons_zero, List.set_cons_succ]))
      | ((refine own_store (T := 39) HO rfl rfl rfl rfl (by first | exact .here | exact .there (.here) | exact .there (.there (.here)) | exact .there (.there (.there (.here))) | exact .there (.there (.there (.there (.here)))) | exact .there (.there (.there (.there (.there (.here))))) | exact .there (.there (.there (.there (.there (.there (.here)))))) | exact .there (.there (.there (.there (.there (.there (.there (.here))))))) | exact .there (.there (.there (.there (.there (.there (.there (.there (.here)))))))) | exact .there (.there (.there (.there (.there (.there (.there (.there (.there (.here))))))))) | exact .there (.there (.there (.there (.there (.there (.there (.there (.there (.there (.here)))))))))) | exact .there (.there (.there (.there (.there (.there (.there (.there (.there (.there (.there (.here)))))))))))) Tryd.sizeOf39 (by repeat constructor) rfl ?_); clear HO; intro wN HO; (try simp only [Act.put, List.setIfInBounds_toArray, List.set_cons_zero, List.set_cons_succ]))
      | ((refine own_store (T := 3) HO rfl rfl rfl rfl (by first | exact .here | exact .there (.here) | exact .there (.there (.here)) | exact .there (.there (.there (.here))) | exact .there (.there (.there (.there (.here)))) | exact .there (.there (.there (.there (.there (.here))))) | exact .there (.there (.there (.there (.there (.there (.here)))))) | exact .there (.there (.there (.there (.there (.there (.there (.here))))))) | exact .there (.there (.there (.there (.there (.there (.there (.there (.here)))))))) | exact .there (.there (.there (.there (.there (.there (.there (.there (.there (.here))))))))) | exact .there (.there (.there (.there (.there (.there (.there (.there (.there (.there (.here)))))))))) | exact .there (.there (.there (.there (.there (.there (.there (.there (.there (.there (.there (.here)))))))))))) Tryd.sizeOf3 (by repeat constructor) rfl ?_); clear HO; intro wN HO; (try simp only [Act.put, List.setIfInBounds_toArray, List.set_cons_zero, List.set_cons_succ])))))
  simp [Act.eval] at HO
  have HFF : Hid (∀ x, (if G.rgbB c1 c2 c3 then 256 + c1 * 65536 + c2 * 256 + c3 else f) = x → f' = x) := Lib.hid (fun x h => HF.out.trans h)
  clear HF
  go_loop [12, 13] (fun r i => ∃ z : Int, (z = 1 ∨ z = 2 ∨ z = 3 ∨ z = 4) ∧ i = .int .i64 z ∧ r = .bool (upB c1 c2 c3 z)) (fun _ i => (4 - intOf i).toNat)
  case atStart => exact ⟨1, .inl rfl, rfl, rfl⟩
  case round =>
    obtain ⟨z, hz, rfl, rfl⟩ := hrel
    rcases hz with rfl | rfl | rfl | rfl
    case inr.inr.inr =>
      have hR : upB c1 c2 c3 4 = G.rgbB c1 c2 c3 := upB_all c1 c2 c3
      rw [hR]
      clear hR
      cases hr : G.rgbB c1 c2 c3 with
      | false =>
        have e := HFF.out f (by rw [hr]; rfl)
        subst e
        clear HFF hr
        go_wp2_with (first
      | ((with_reducible refine gate ?_); (first
      | ((refine own_eql (t := 23) rfl rfl rfl rfl (by kernel_rfl) HE.out ?_); (try simp only [Act.put, List.setIfInBounds_toArray, List.set_cons_zero, List.set_cons_succ]))
      | ((refine own_box HO rfl rfl rfl ?_); clear HO; intro gN wN hgN HO; (simp only [List.nil_append, List.cons_append] at HO); (try simp only [Act.put, List.setIfInBounds_toArray, List.set_cons_zero, List.set_cons_succ]))
      | ((refine own_load (T := 23) HO rfl rfl rfl (by first | exact .head _ | exact .tail _ (.head _) | exact .tail _ (.tail _ (.head _)) | exact .tail _ (.tail _ (.tail _ (.head _))) | exact .tail _ (.tail _ (.tail _ (.tail _ (.head _)))) | exact .tail _ (.tail _ (.tail _ (.tail _ (.tail _ (.head _))))) | exact .tail _ (.tail _ (.tail _ (.tail _ (.tail _ (.tail _ (.head _)))))) | exact .tail _ (.tail _ (.tail _ (.tail _ (.tail _ (.tail _ (.tail _ (.head _))))))) | exact .tail _ (.tail _ (.tail _ (.tail _ (.tail _ (.tail _ (.tail _ (.tail _ (.head _))))))))) Tryd.isAgg23 Tryd.sizeOf23 (by repeat constructor) ?_); (try simp only [Act.put, List.setIfInBounds_toArray, List.set_cons_zero, List.set_cons_succ]))
      | ((refine own_load1 (T := 3) HO rfl rfl rfl (by first | exact .head _ | exact .tail _ (.head _) | exact .tail _ (.tail _ (.head _)) | exact .tail _ (.tail _ (.tail _ (.head _))) | exact .tail _ (.tail _ (.tail _ (.tail _ (.head _)))) | exact .tail _ (.tail _ (.tail _ (.tail _ (.tail _ (.head _))))) | exact .tail _ (.tail _ (.tail _ (.tail _ (.tail _ (.tail _ (.head _)))))) | exact .tail _ (.tail _ (.tail _ (.tail _ (.tail _ (.tail _ (.tail _ (.head _))))))) | exact .tail _ (.tail _ (.tail _ (.tail _ (.tail _ (.tail _ (.tail _ (.tail _ (.head _))))))))) Tryd.isAgg3 rfl ?_); (try simp only [Act.put, List.setIfInBounds_toArray, List.set_cons_zero, List.set_cons_succ]))
      | ((refine own_store (T := 23) HO rfl rfl rfl rfl (by first | exact .here | exact .there (.here) | exact .there (.there (.here)) | exact .there (.there (.there (.here))) | exact .there (.there (.there (.there (.here)))) | exact .there (.there (.there (.there (.there (.here))))) | exact .there (.there (.there (.there (.there (.there (.here)))))) | exact .there (.there (.there (.there (.there (.there (.there (.here))))))) | exact .there (.there (.there (.there (.there (.there (.there (.there (.here))))))))) Tryd.sizeOf23 (by repeat constructor) rfl ?_); clear HO; intro wN HO; (try simp only [Act.put, List.setIfInBounds_toArray, List.set_cons_zero, List.set_cons_succ]))
      | ((refine own_store (T := 3) HO rfl rfl rfl rfl (by first | exact .here | exact .there (.here) | exact .there (.there (.here)) | exact .there (.there (.there (.here))) | exact .there (.there (.there (.there (.here)))) | exact .there (.there (.there (.there (.there (.here))))) | exact .there (.there (.there (.there (.there (.there (.here)))))) | exact .there (.there (.there (.there (.there (.there (.there (.here))))))) | exact .there (.there (.there (.there (.there (.there (.there (.there (.here))))))))) Tryd.sizeOf3 (by repeat constructor) rfl ?_); clear HO; intro wN HO; (try simp only [Act.put, List.setIfInBounds_toArray, List.set_cons_zero, List.set_cons_succ])))))
        go_ret
        exact ⟨rfl, HO.below⟩
      | true =>
        have e := HFF.out _ (by rw [hr, if_pos rfl])
        simp only [G.rgbB, byteB, Bool.and_eq_true, decide_eq_true_eq] at hr
        obtain ⟨⟨l1, h1⟩, ⟨l2, h2⟩, l3, h3⟩ := hr
        have w1 : IntKind.i64.wrap (65536 * c1) = 65536 * c1 := IntWalk.i64_in _ (by omega)
        have w2 : IntKind.i64.wrap (256 + 65536 * c1) = 256 + 65536 * c1 := IntWalk.i64_in _ (by omega)
        have w3 : IntKind.i64.wrap (256 * c2) = 256 * c2 := IntWalk.i64_in _ (by omega)
        have w4 : IntKind.i64.wrap (256 + 65536 * c1 + 256 * c2) = 256 + 65536 * c1 + 256 * c2 := IntWalk.i64_in _ (by omega)
        have w5 : IntKind.i64.wrap (256 + 65536 * c1 + 256 * c2 + c3) = 256 + 65536 * c1 + 256 * c2 + c3 := IntWalk.i64_in _ (by omega)
        have HEQ : (f' == 256 + 65536 * c1 + 256 * c2 + c3) = true := beq_iff_eq.2 (by omega)
        clear HFF e l1 h1 l2 h2 l3 h3
        go_wp2_with (first
      | ((with_reducible refine gate ?_); (first
      | ((refine own_eql (t := 23) rfl rfl rfl rfl (by kernel_rfl) HE.out ?_); (try simp only [Act.put, List.setIfInBounds_toArray, List.set_cons_zero, List.set_cons_succ]))
      | ((refine own_box HO rfl rfl rfl ?_); clear HO; intro gN wN hgN HO; (simp only [List.nil_append, List.cons_append] at HO); (try simp only [Act.put, List.setIfInBounds_toArray, List.set_cons_zero, List.set_cons_succ]))
      | ((refine own_load (T := 23) HO rfl rfl rfl (by first | exact .head _ | exact .tail _ (.head _) | exact .tail _ (.tail _ (.head _)) | exact .tail _ (.tail _ (.tail _ (.head _))) | exact .tail _ (.tail _ (.tail _ (.tail _ (.head _)))) | exact .tail _ (.tail _ (.tail _ (.tail _ (.tail _ (.head _))))) | exact .tail _ (.tail _ (.tail _ (.tail _ (.tail _ (.tail _ (.head _)))))) | exact .tail _ (.tail _ (.tail _ (.tail _ (.tail _ (.tail _ (.tail _ (.head _))))))) | exact .tail _ (.tail _ (.tail _ (.tail _ (.tail _ (.tail _ (.tail _ (.tail _ (.head _))))))))) Tryd.isAgg23 Tryd.sizeOf23 (by repeat constructor) ?_); (try simp only [Act.put, List.setIfInBounds_toArray, List.set_cons_zero, List.set_cons_succ]))
      | ((refine own_load1 (T := 3) HO rfl rfl rfl (by first | exact .head _ | exact .tail _ (.head _) | exact .tail _ (.tail _ (.head _)) | exact .tail _ (.tail _ (.tail _ (.head _))) | exact .tail _ (.tail _ (.tail _ (.tail _ (.head _)))) | exact .tail _ (.tail _ (.tail _ (.tail _ (.tail _ (.head _))))) | exact .tail _ (.tail _ (.tail _ (.tail _ (.tail _ (.tail _ (.head _)))))) | exact .tail _ (.tail _ (.tail _ (.tail _ (.tail _ (.tail _ (.tail _ (.head _))))))) | exact .tail _ (.tail _ (.tail _ (.tail _ (.tail _ (.tail _ (.tail _ (.tail _ (.head _))))))))) Tryd.isAgg3 rfl ?_); (try simp only [Act.put, List.setIfInBounds_toArray, List.set_cons_zero, List.set_cons_succ]))
      | ((refine own_store (T := 23) HO rfl rfl rfl rfl (by first | exact .here | exact .there (.here) | exact .there (.there (.here)) | exact .there (.there (.there (.here))) | exact .there (.there (.there (.there (.here)))) | exact .there (.there (.there (.there (.there (.here))))) | exact .there (.there (.there (.there (.there (.there (.here)))))) | exact .there (.there (.there (.there (.there (.there (.there (.here))))))) | exact .there (.there (.there (.there (.there (.there (.there (.there (.here))))))))) Tryd.sizeOf23 (by repeat constructor) rfl ?_); clear HO; intro wN HO; (try simp only [Act.put, List.setIfInBounds_toArray, List.set_cons_zero, List.set_cons_succ]))
      | ((refine own_store (T := 3) HO rfl rfl rfl rfl (by first | exact .here | exact .there (.here) | exact .there (.there (.here)) | exact .there (.there (.there (.here))) | exact .there (.there (.there (.there (.here)))) | exact .there (.there (.there (.there (.there (.here))))) | exact .there (.there (.there (.there (.there (.there (.here)))))) | exact .there (.there (.there (.there (.there (.there (.there (.here))))))) | exact .there (.there (.there (.there (.there (.there (.there (.there (.here))))))))) Tryd.sizeOf3 (by repeat constructor) rfl ?_); clear HO; intro wN HO; (try simp only [Act.put, List.setIfInBounds_toArray, List.set_cons_zero, List.set_cons_succ])))))
        go_ret
        exact ⟨rfl, HO.below⟩
    all_goals clear HE
    case' inl => have hw := upB_ways c1 c2 c3 c1 1 rfl
    case' inr.inl => have hw := upB_ways c1 c2 c3 c2 2 rfl
    case' inr.inr.inl => have hw := upB_ways c1 c2 c3 c3 3 rfl
    all_goals
      rcases hw with ⟨q, hu⟩ | ⟨q, q0, hu⟩ | ⟨q, q0, q1, hu⟩ | ⟨q, q0, q1, hu⟩
      all_goals
        rw [q]
        have HU := Lib.hid hu
        clear q hu
        go_wp2_with (first
      | ((with_reducible refine gate ?_); (first
      | ((refine own_box HO rfl rfl rfl ?_); clear HO; intro gN wN hgN HO; (simp only [List.nil_append, List.cons_append] at HO); (try simp only [Act.put, List.setIfInBounds_toArray, List.set_cons_zero, List.set_cons_succ]))
      | ((refine own_load1 (T := 3) HO rfl rfl rfl (by first | exact .head _ | exact .tail _ (.head _)) Tryd.isAgg3 rfl ?_); (try simp only [Act.put, List.setIfInBounds_toArray, List.set_cons_zero, List.set_cons_succ]))
      | ((refine own_store (T := 3) HO rfl rfl rfl rfl (by first | exact .here | exact .there (.here)) Tryd.sizeOf3 (by repeat constructor) rfl ?_); clear HO; intro wN HO; (try simp only [Act.put, List.setIfInBounds_toArray, List.set_cons_zero, List.set_cons_succ])))))
        go_round
        case rel => first | exact ⟨2, .inr (.inl rfl), rfl, by rw [← HU.out]; rfl⟩ | exact ⟨3, .inr (.inr (.inl rfl)), rfl, by rw [← HU.out]; rfl⟩ | exact ⟨4, .inr (.inr (.inr rfl)), rfl, by rw [← HU.out]; rfl⟩
        case measure => simp [intOf]
set_option maxRecDepth 100000 in
set_option maxHeartbeats 16000000 in
theorem styleNone_G (b0 b1 b2 b3 b4 b5 b6 : Bool) (u f b n c0 c1 c2 c3 f' : Int) (hn : n = 98) (hA1 : AppAt (b0, b1, b2, b3, b4, b5, b6, u, f, b) (b0, b1, b2, b3, b4, b5, b6, u, f, b) [n] 1) (hA2 : AppAt (b0, b1, b2, b3, b4, b5, b6, u, f, b) (b0, b1, b2, b3, b4, b5, b6, u, f', b) [38, 2, c0, c1, c2, c3] 6) (hf' : f' = if G.rgbB c1 c2 c3 then 256 + c1 * 65536 + c2 * 256 + c3 else f) (w : World) (hT : Tab w) :
    Calls Tryd.prog 8 #[stV b0 b1 b2 b3 b4 b5 b6 u f b, .int .i64 n, .agg #[.int .i64 c0, .int .i64 c1, .int .i64 c2, .int .i64 c3]] w fun e w' => e = .returned (.bool true) ∧ Below w.heap.size w w' := by
  subst hn
  have HAW : Hid (∀ W, Below w.heap.size w W → Calls Tryd.prog 9 #[] W fun e w' => e = .returned (.bool true) ∧ Below W.heap.size W w') := Lib.hid (fun W hb => G.clavierlaw18_awake.calls 13000 true W (Tab.below hT hb) (G.awake18_is 13000 (by omega)))
  have HA1 := Lib.hid hA1
  have HA2 := Lib.hid hA2
  have HF := Lib.hid hf'
  have HE := style_equal b0 b1 b2 b3 b4 b5 b6 u f b
  have HO := Mine.start w
  clear hA1 hA2 hf' hT
  unfold AppAt at HA1 HA2
  unfold stV at *
  go_enter Tryd.func8, Tryd.ntmps8
  go_wp2_with (first
      | (go_at_call 9; refine (HAW.out _ HO.below).mono ?_; rintro eN wN ⟨rfl, hbN⟩; have HON := HO.call hbN; clear HO hbN; have HO := HON; clear HON)
      | (go_at_call 18; refine (HA1.out _ g1 g2 (HO.at (by first | exact .head _ | exact .tail _ (.head _) | exact .tail _ (.tail _ (.head _)) | exact .tail _ (.tail _ (.tail _ (.head _))) | exact .tail _ (.tail _ (.tail _ (.tail _ (.head _)))) | exact .tail _ (.tail _ (.tail _ (.tail _ (.tail _ (.head _))))) | exact .tail _ (.tail _ (.tail _ (.tail _ (.tail _ (.tail _ (.head _)))))) | exact .tail _ (.tail _ (.tail _ (.tail _ (.tail _ (.tail _ (.tail _ (.head _))))))) | exact .tail _ (.tail _ (.tail _ (.tail _ (.tail _ (.tail _ (.tail _ (.tail _ (.head _)))))))) | exact .tail _ (.tail _ (.tail _ (.tail _ (.tail _ (.tail _ (.tail _ (.tail _ (.tail _ (.head _))))))))) | exact .tail _ (.tail _ (.tail _ (.tail _ (.tail _ (.tail _ (.tail _ (.tail _ (.tail _ (.tail _ (.head _)))))))))) | exact .tail _ (.tail _ (.tail _ (.tail _ (.tail _ (.tail _ (.tail _ (.tail _ (.tail _ (.tail _ (.tail _ (.head _))))))))))))) (HO.at (by first | exact .head _ | exact .tail _ (.head _) | exact .tail _ (.tail _ (.head _)) | exact .tail _ (.tail _ (.tail _ (.head _))) | exact .tail _ (.tail _ (.tail _ (.tail _ (.head _)))) | exact .tail _ (.tail _ (.tail _ (.tail _ (.tail _ (.head _))))) | exact .tail _ (.tail _ (.tail _ (.tail _ (.tail _ (.tail _ (.head _)))))) | exact .tail _ (.tail _ (.tail _ (.tail _ (.tail _ (.tail _ (.tail _ (.head _))))))) | exact .tail _ (.tail _ (.tail _ (.tail _ (.tail _ (.tail _ (.tail _ (.tail _ (.head _)))))))) | exact .tail _ (.tail _ (.tail _ (.tail _ (.tail _ (.tail _ (.tail _ (.tail _ (.tail _ (.head _))))))))) | exact .tail _ (.tail _ (.tail _ (.tail _ (.tail _ (.tail _ (.tail _ (.tail _ (.tail _ (.tail _ (.head _)))))))))) | exact .tail _ (.tail _ (.tail _ (.tail _ (.tail _ (.tail _ (.tail _ (.tail _ (.tail _ (.tail _ (.tail _ (.head _)))))))))))))).mono ?_; clear HA1; rintro eN wN ⟨rfl, hbN⟩; have HON := HO.call hbN; clear HO hbN; have HO := HON; clear HON)
      | (go_at_call 18; refine (HA2.out _ g3 g4 (HO.at (by first | exact .head _ | exact .tail _ (.head _) | exact .tail _ (.tail _ (.head _)) | exact .tail _ (.tail _ (.tail _ (.head _))) | exact .tail _ (.tail _ (.tail _ (.tail _ (.head _)))) | exact .tail _ (.tail _ (.tail _ (.tail _ (.tail _ (.head _))))) | exact .tail _ (.tail _ (.tail _ (.tail _ (.tail _ (.tail _ (.head _)))))) | exact .tail _ (.tail _ (.tail _ (.tail _ (.tail _ (.tail _ (.tail _ (.head _))))))) | exact .tail _ (.tail _ (.tail _ (.tail _ (.tail _ (.tail _ (.tail _ (.tail _ (.head _)))))))) | exact .tail _ (.tail _ (.tail _ (.tail _ (.tail _ (.tail _ (.tail _ (.tail _ (.tail _ (.head _))))))))) | exact .tail _ (.tail _ (.tail _ (.tail _ (.tail _ (.tail _ (.tail _ (.tail _ (.tail _ (.tail _ (.head _)))))))))) | exact .tail _ (.tail _ (.tail _ (.tail _ (.tail _ (.tail _ (.tail _ (.tail _ (.tail _ (.tail _ (.tail _ (.head _))))))))))))) (HO.at (by first | exact .head _ | exact .tail _ (.head _) | exact .tail _ (.tail _ (.head _)) | exact .tail _ (.tail _ (.tail _ (.head _))) | exact .tail _ (.tail _ (.tail _ (.tail _ (.head _)))) | exact .tail _ (.tail _ (.tail _ (.tail _ (.tail _ (.head _))))) | exact .tail _ (.tail _ (.tail _ (.tail _ (.tail _ (.tail _ (.head _)))))) | exact .tail _ (.tail _ (.tail _ (.tail _ (.tail _ (.tail _ (.tail _ (.head _))))))) | exact .tail _ (.tail _ (.tail _ (.tail _ (.tail _ (.tail _ (.tail _ (.tail _ (.head _)))))))) | exact .tail _ (.tail _ (.tail _ (.tail _ (.tail _ (.tail _ (.tail _ (.tail _ (.tail _ (.head _))))))))) | exact .tail _ (.tail _ (.tail _ (.tail _ (.tail _ (.tail _ (.tail _ (.tail _ (.tail _ (.tail _ (.head _)))))))))) | exact .tail _ (.tail _ (.tail _ (.tail _ (.tail _ (.tail _ (.tail _ (.tail _ (.tail _ (.tail _ (.tail _ (.head _)))))))))))))).mono ?_; clear HA2; rintro eN wN ⟨rfl, hbN⟩; have HON := HO.call hbN; clear HO hbN; have HO := HON; clear HON)
      | ((with_reducible refine gate ?_); (first
      | ((with_reducible refine gateAt (N := 48) rfl ?_); refine own_lit HO rfl (n := 1) (cs := [.int .i64 98]) (T := 3) (by first | (go_simp; done) | (go_simp; rfl)) ?_; clear HO; intro g1 wN hgN HO; (simp only [List.nil_append, List.cons_append] at HO); (try simp only [Act.put, List.setIfInBounds_toArray, List.set_cons_zero, List.set_cons_succ]))
      | ((with_reducible refine gateAt (N := 49) rfl ?_); refine own_lit HO rfl (n := 1) (cs := [.slice (some ⟨g1, 0, none⟩) 1 1]) (T := 35) (by first | (go_simp; done) | (go_simp; rfl)) ?_; clear HO; intro g2 wN hgN HO; (simp only [List.nil_append, List.cons_append] at HO); (try simp only [Act.put, List.setIfInBounds_toArray, List.set_cons_zero, List.set_cons_succ]))
      | ((with_reducible refine gateAt (N := 60) rfl ?_); refine own_lit HO rfl (n := 6) (cs := [.int .i64 38, .int .i64 2, .int .i64 c0, .int .i64 c1, .int .i64 c2, .int .i64 c3]) (T := 3) (by first | (go_simp; done) | (go_simp; rfl)) ?_; clear HO; intro g3 wN hgN HO; (simp only [List.nil_append, List.cons_append] at HO); (try simp only [Act.put, List.setIfInBounds_toArray, List.set_cons_zero, List.set_cons_succ]))
      | ((with_reducible refine gateAt (N := 61) rfl ?_); refine own_lit HO rfl (n := 1) (cs := [.slice (some ⟨g3, 0, none⟩) 6 6]) (T := 35) (by first | (go_simp; done) | (go_simp; rfl)) ?_; clear HO; intro g4 wN hgN HO; (simp only [List.nil_append, List.cons_append] at HO); (try simp only [Act.put, List.setIfInBounds_toArray, List.set_cons_zero, List.set_cons_succ]))
      | ((refine own_eql (t := 23) rfl rfl rfl rfl (by kernel_rfl) HE.out ?_); (try simp only [Act.put, List.setIfInBounds_toArray, List.set_cons_zero, List.set_cons_succ]))
      | ((refine own_box HO rfl rfl rfl ?_); clear HO; intro gN wN hgN HO; (simp only [List.nil_append, List.cons_append] at HO); (try simp only [Act.put, List.setIfInBounds_toArray, List.set_cons_zero, List.set_cons_succ]))
      | ((refine own_alloc (T := 23) HO rfl rfl Tryd.zeroValue23 rfl ?_); clear HO; intro gN wN hgN HO; (simp only [List.nil_append, List.cons_append] at HO); (try simp only [Act.put, List.setIfInBounds_toArray, List.set_cons_zero, List.set_cons_succ]))
      | ((refine own_load (T := 23) HO rfl rfl rfl (by first | exact .head _ | exact .tail _ (.head _) | exact .tail _ (.tail _ (.head _)) | exact .tail _ (.tail _ (.tail _ (.head _))) | exact .tail _ (.tail _ (.tail _ (.tail _ (.head _)))) | exact .tail _ (.tail _ (.tail _ (.tail _ (.tail _ (.head _))))) | exact .tail _ (.tail _ (.tail _ (.tail _ (.tail _ (.tail _ (.head _)))))) | exact .tail _ (.tail _ (.tail _ (.tail _ (.tail _ (.tail _ (.tail _ (.head _))))))) | exact .tail _ (.tail _ (.tail _ (.tail _ (.tail _ (.tail _ (.tail _ (.tail _ (.head _)))))))) | exact .tail _ (.tail _ (.tail _ (.tail _ (.tail _ (.tail _ (.tail _ (.tail _ (.tail _ (.head _))))))))) | exact .tail _ (.tail _ (.tail _ (.tail _ (.tail _ (.tail _ (.tail _ (.tail _ (.tail _ (.tail _ (.head _)))))))))) | exact .tail _ (.tail _ (.tail _ (.tail _ (.tail _ (.tail _ (.tail _ (.tail _ (.tail _ (.tail _ (.tail _ (.head _)))))))))))) Tryd.isAgg23 Tryd.sizeOf23 (by repeat constructor) ?_); (try simp only [Act.put, List.setIfInBounds_toArray, List.set_cons_zero, List.set_cons_succ]))
      | ((refine own_load (T := 39) HO rfl rfl rfl (by first | exact .head _ | exact .tail _ (.head _) | exact .tail _ (.tail _ (.head _)) | exact .tail _ (.tail _ (.tail _ (.head _))) | exact .tail _ (.tail _ (.tail _ (.tail _ (.head _)))) | exact .tail _ (.tail _ (.tail _ (.tail _ (.tail _ (.head _))))) | exact .tail _ (.tail _ (.tail _ (.tail _ (.tail _ (.tail _ (.head _)))))) | exact .tail _ (.tail _ (.tail _ (.tail _ (.tail _ (.tail _ (.tail _ (.head _))))))) | exact .tail _ (.tail _ (.tail _ (.tail _ (.tail _ (.tail _ (.tail _ (.tail _ (.head _)))))))) | exact .tail _ (.tail _ (.tail _ (.tail _ (.tail _ (.tail _ (.tail _ (.tail _ (.tail _ (.head _))))))))) | exact .tail _ (.tail _ (.tail _ (.tail _ (.tail _ (.tail _ (.tail _ (.tail _ (.tail _ (.tail _ (.head _)))))))))) | exact .tail _ (.tail _ (.tail _ (.tail _ (.tail _ (.tail _ (.tail _ (.tail _ (.tail _ (.tail _ (.tail _ (.head _)))))))))))) Tryd.isAgg39 Tryd.sizeOf39 (by repeat constructor) ?_); (try simp only [Act.put, List.setIfInBounds_toArray, List.set_cons_zero, List.set_cons_succ]))
      | ((refine own_load1 (T := 3) HO rfl rfl rfl (by first | exact .head _ | exact .tail _ (.head _) | exact .tail _ (.tail _ (.head _)) | exact .tail _ (.tail _ (.tail _ (.head _))) | exact .tail _ (.tail _ (.tail _ (.tail _ (.head _)))) | exact .tail _ (.tail _ (.tail _ (.tail _ (.tail _ (.head _))))) | exact .tail _ (.tail _ (.tail _ (.tail _ (.tail _ (.tail _ (.head _)))))) | exact .tail _ (.tail _ (.tail _ (.tail _ (.tail _ (.tail _ (.tail _ (.head _))))))) | exact .tail _ (.tail _ (.tail _ (.tail _ (.tail _ (.tail _ (.tail _ (.tail _ (.head _)))))))) | exact .tail _ (.tail _ (.tail _ (.tail _ (.tail _ (.tail _ (.tail _ (.tail _ (.tail _ (.head _))))))))) | exact .tail _ (.tail _ (.tail _ (.tail _ (.tail _ (.tail _ (.tail _ (.tail _ (.tail _ (.tail _ (.head _)))))))))) | exact .tail _ (.tail _ (.tail _ (.tail _ (.tail _ (.tail _ (.tail _ (.tail _ (.tail _ (.tail _ (.tail _ (.head _)))))))))))) Tryd.isAgg3 rfl ?_); (try simp only [Act.put, List.setIfInBounds_toArray, List.set_cons_zero, List.set_cons_succ]))
      | ((refine own_store (T := 23) HO rfl rfl rfl rfl (by first | exact .here | exact .there (.here) | exact .there (.there (.here)) | exact .there (.there (.there (.here))) | exact .there (.there (.there (.there (.here)))) | exact .there (.there (.there (.there (.there (.here))))) | exact .there (.there (.there (.there (.there (.there (.here)))))) | exact .there (.there (.there (.there (.there (.there (.there (.here))))))) | exact .there (.there (.there (.there (.there (.there (.there (.there (.here)))))))) | exact .there (.there (.there (.there (.there (.there (.there (.there (.there (.here))))))))) | exact .there (.there (.there (.there (.there (.there (.there (.there (.there (.there (.here)))))))))) | exact .there (.there (.there (.there (.there (.there (.there (.there (.there (.there (.there (.here)))))))))))) Tryd.sizeOf23 (by repeat constructor) rfl ?_); clear HO; intro wN HO; (try simp only [Act.put, List.setIfInBounds_toArray, List.set_cons_zero, List.set_cons_succ]))
      | ((refine own_store (T := 39) HO rfl rfl rfl rfl (by first | exact .here | exact .there (.here) | exact .there (.there (.here)) | exact .there (.there (.there (.here))) | exact .there (.there (.there (.there (.here)))) | exact .there (.there (.there (.there (.there (.here))))) | exact .there (.there (.there (.there (.there (.there (.here)))))) | exact .there (.there (.there (.there (.there (.there (.there (.here))))))) | exact .there (.there (.there (.there (.there (.there (.there (.there (.here)))))))) | exact .there (.there (.there (.there (.there (.there (.there (.there (.there (.here))))))))) | exact .there (.there (.there (.there (.there (.there (.there (.there (.there (.there (.here)))))))))) | exact .there (.there (.there (.there (.there (.there (.there (.there (.there (.there (.there (.here)))))))))))) Tryd.sizeOf39 (by repeat constructor) rfl ?_); clear HO; intro wN HO; (try simp only [Act.put, List.setIfInBounds_toArray, List.set_cons_zero, List.set_cons_succ]))
      | ((refine own_store (T := 3) HO rfl rfl rfl rfl (by first | exact .here | exact .there (.here) | exact .there (.there (.here)) | exact .there (.there (.there (.here))) | exact .there (.there (.there (.there (.here)))) | exact .there (.there (.there (.there (.there (.here))))) | exact .there (.there (.there (.there (.there (.there (.here)))))) | exact .there (.there (.there (.there (.there (.there (.there (.here))))))) | exact .there (.there (.there (.there (.there (.there (.there (.there (.here)))))))) | exact .there (.there (.there (.there (.there (.there (.there (.there (.there (.here))))))))) | exact .there (.there (.there (.there (.there (.there (.there (.there (.there (.there (.here)))))))))) | exact .there (.there (.there (.there (.there (.there (.there (.there (.there (.there (.there (.here)))))))))))) Tryd.sizeOf3 (by repeat constructor) rfl ?_); clear HO; intro wN HO; (try simp only [Act.put, List.setIfInBounds_toArray, List.set_cons_zero, List.set_cons_succ])))))
  simp [Act.eval] at HO
  have HFF : Hid (∀ x, (if G.rgbB c1 c2 c3 then 256 + c1 * 65536 + c2 * 256 + c3 else f) = x → f' = x) := Lib.hid (fun x h => HF.out.trans h)
  clear HF
  go_loop [12, 13] (fun r i => ∃ z : Int, (z = 1 ∨ z = 2 ∨ z = 3 ∨ z = 4) ∧ i = .int .i64 z ∧ r = .bool (upB c1 c2 c3 z)) (fun _ i => (4 - intOf i).toNat)
  case atStart => exact ⟨1, .inl rfl, rfl, rfl⟩
  case round =>
    obtain ⟨z, hz, rfl, rfl⟩ := hrel
    rcases hz with rfl | rfl | rfl | rfl
    case inr.inr.inr =>
      have hR : upB c1 c2 c3 4 = G.rgbB c1 c2 c3 := upB_all c1 c2 c3
      rw [hR]
      clear hR
      cases hr : G.rgbB c1 c2 c3 with
      | false =>
        have e := HFF.out f (by rw [hr]; rfl)
        subst e
        clear HFF hr
        go_wp2_with (first
      | ((with_reducible refine gate ?_); (first
      | ((refine own_eql (t := 23) rfl rfl rfl rfl (by kernel_rfl) HE.out ?_); (try simp only [Act.put, List.setIfInBounds_toArray, List.set_cons_zero, List.set_cons_succ]))
      | ((refine own_box HO rfl rfl rfl ?_); clear HO; intro gN wN hgN HO; (simp only [List.nil_append, List.cons_append] at HO); (try simp only [Act.put, List.setIfInBounds_toArray, List.set_cons_zero, List.set_cons_succ]))
      | ((refine own_load (T := 23) HO rfl rfl rfl (by first | exact .head _ | exact .tail _ (.head _) | exact .tail _ (.tail _ (.head _)) | exact .tail _ (.tail _ (.tail _ (.head _))) | exact .tail _ (.tail _ (.tail _ (.tail _ (.head _)))) | exact .tail _ (.tail _ (.tail _ (.tail _ (.tail _ (.head _))))) | exact .tail _ (.tail _ (.tail _ (.tail _ (.tail _ (.tail _ (.head _)))))) | exact .tail _ (.tail _ (.tail _ (.tail _ (.tail _ (.tail _ (.tail _ (.head _))))))) | exact .tail _ (.tail _ (.tail _ (.tail _ (.tail _ (.tail _ (.tail _ (.tail _ (.head _))))))))) Tryd.isAgg23 Tryd.sizeOf23 (by repeat constructor) ?_); (try simp only [Act.put, List.setIfInBounds_toArray, List.set_cons_zero, List.set_cons_succ]))
      | ((refine own_load1 (T := 3) HO rfl rfl rfl (by first | exact .head _ | exact .tail _ (.head _) | exact .tail _ (.tail _ (.head _)) | exact .tail _ (.tail _ (.tail _ (.head _))) | exact .tail _ (.tail _ (.tail _ (.tail _ (.head _)))) | exact .tail _ (.tail _ (.tail _ (.tail _ (.tail _ (.head _))))) | exact .tail _ (.tail _ (.tail _ (.tail _ (.tail _ (.tail _ (.head _)))))) | exact .tail _ (.tail _ (.tail _ (.tail _ (.tail _ (.tail _ (.tail _ (.head _))))))) | exact .tail _ (.tail _ (.tail _ (.tail _ (.tail _ (.tail _ (.tail _ (.tail _ (.head _))))))))) Tryd.isAgg3 rfl ?_); (try simp only [Act.put, List.setIfInBounds_toArray, List.set_cons_zero, List.set_cons_succ]))
      | ((refine own_store (T := 23) HO rfl rfl rfl rfl (by first | exact .here | exact .there (.here) | exact .there (.there (.here)) | exact .there (.there (.there (.here))) | exact .there (.there (.there (.there (.here)))) | exact .there (.there (.there (.there (.there (.here))))) | exact .there (.there (.there (.there (.there (.there (.here)))))) | exact .there (.there (.there (.there (.there (.there (.there (.here))))))) | exact .there (.there (.there (.there (.there (.there (.there (.there (.here))))))))) Tryd.sizeOf23 (by repeat constructor) rfl ?_); clear HO; intro wN HO; (try simp only [Act.put, List.setIfInBounds_toArray, List.set_cons_zero, List.set_cons_succ]))
      | ((refine own_store (T := 3) HO rfl rfl rfl rfl (by first | exact .here | exact .there (.here) | exact .there (.there (.here)) | exact .there (.there (.there (.here))) | exact .there (.there (.there (.there (.here)))) | exact .there (.there (.there (.there (.there (.here))))) | exact .there (.there (.there (.there (.there (.there (.here)))))) | exact .there (.there (.there (.there (.there (.there (.there (.here))))))) | exact .there (.there (.there (.there (.there (.there (.there (.there (.here))))))))) Tryd.sizeOf3 (by repeat constructor) rfl ?_); clear HO; intro wN HO; (try simp only [Act.put, List.setIfInBounds_toArray, List.set_cons_zero, List.set_cons_succ])))))
        go_ret
        exact ⟨rfl, HO.below⟩
      | true =>
        have e := HFF.out _ (by rw [hr, if_pos rfl])
        simp only [G.rgbB, byteB, Bool.and_eq_true, decide_eq_true_eq] at hr
        obtain ⟨⟨l1, h1⟩, ⟨l2, h2⟩, l3, h3⟩ := hr
        have w1 : IntKind.i64.wrap (65536 * c1) = 65536 * c1 := IntWalk.i64_in _ (by omega)
        have w2 : IntKind.i64.wrap (256 + 65536 * c1) = 256 + 65536 * c1 := IntWalk.i64_in _ (by omega)
        have w3 : IntKind.i64.wrap (256 * c2) = 256 * c2 := IntWalk.i64_in _ (by omega)
        have w4 : IntKind.i64.wrap (256 + 65536 * c1 + 256 * c2) = 256 + 65536 * c1 + 256 * c2 := IntWalk.i64_in _ (by omega)
        have w5 : IntKind.i64.wrap (256 + 65536 * c1 + 256 * c2 + c3) = 256 + 65536 * c1 + 256 * c2 + c3 := IntWalk.i64_in _ (by omega)
        have HEQ : (f' == 256 + 65536 * c1 + 256 * c2 + c3) = true := beq_iff_eq.2 (by omega)
        clear HFF e l1 h1 l2 h2 l3 h3
        go_wp2_with (first
      | ((with_reducible refine gate ?_); (first
      | ((refine own_eql (t := 23) rfl rfl rfl rfl (by kernel_rfl) HE.out ?_); (try simp only [Act.put, List.setIfInBounds_toArray, List.set_cons_zero, List.set_cons_succ]))
      | ((refine own_box HO rfl rfl rfl ?_); clear HO; intro gN wN hgN HO; (simp only [List.nil_append, List.cons_append] at HO); (try simp only [Act.put, List.setIfInBounds_toArray, List.set_cons_zero, List.set_cons_succ]))
      | ((refine own_load (T := 23) HO rfl rfl rfl (by first | exact .head _ | exact .tail _ (.head _) | exact .tail _ (.tail _ (.head _)) | exact .tail _ (.tail _ (.tail _ (.head _))) | exact .tail _ (.tail _ (.tail _ (.tail _ (.head _)))) | exact .tail _ (.tail _ (.tail _ (.tail _ (.tail _ (.head _))))) | exact .tail _ (.tail _ (.tail _ (.tail _ (.tail _ (.tail _ (.head _)))))) | exact .tail _ (.tail _ (.tail _ (.tail _ (.tail _ (.tail _ (.tail _ (.head _))))))) | exact .tail _ (.tail _ (.tail _ (.tail _ (.tail _ (.tail _ (.tail _ (.tail _ (.head _))))))))) Tryd.isAgg23 Tryd.sizeOf23 (by repeat constructor) ?_); (try simp only [Act.put, List.setIfInBounds_toArray, List.set_cons_zero, List.set_cons_succ]))
      | ((refine own_load1 (T := 3) HO rfl rfl rfl (by first | exact .head _ | exact .tail _ (.head _) | exact .tail _ (.tail _ (.head _)) | exact .tail _ (.tail _ (.tail _ (.head _))) | exact .tail _ (.tail _ (.tail _ (.tail _ (.head _)))) | exact .tail _ (.tail _ (.tail _ (.tail _ (.tail _ (.head _))))) | exact .tail _ (.tail _ (.tail _ (.tail _ (.tail _ (.tail _ (.head _)))))) | exact .tail _ (.tail _ (.tail _ (.tail _ (.tail _ (.tail _ (.tail _ (.head _))))))) | exact .tail _ (.tail _ (.tail _ (.tail _ (.tail _ (.tail _ (.tail _ (.tail _ (.head _))))))))) Tryd.isAgg3 rfl ?_); (try simp only [Act.put, List.setIfInBounds_toArray, List.set_cons_zero, List.set_cons_succ]))
      | ((refine own_store (T := 23) HO rfl rfl rfl rfl (by first | exact .here | exact .there (.here) | exact .there (.there (.here)) | exact .there (.there (.there (.here))) | exact .there (.there (.there (.there (.here)))) | exact .there (.there (.there (.there (.there (.here))))) | exact .there (.there (.there (.there (.there (.there (.here)))))) | exact .there (.there (.there (.there (.there (.there (.there (.here))))))) | exact .there (.there (.there (.there (.there (.there (.there (.there (.here))))))))) Tryd.sizeOf23 (by repeat constructor) rfl ?_); clear HO; intro wN HO; (try simp only [Act.put, List.setIfInBounds_toArray, List.set_cons_zero, List.set_cons_succ]))
      | ((refine own_store (T := 3) HO rfl rfl rfl rfl (by first | exact .here | exact .there (.here) | exact .there (.there (.here)) | exact .there (.there (.there (.here))) | exact .there (.there (.there (.there (.here)))) | exact .there (.there (.there (.there (.there (.here))))) | exact .there (.there (.there (.there (.there (.there (.here)))))) | exact .there (.there (.there (.there (.there (.there (.there (.here))))))) | exact .there (.there (.there (.there (.there (.there (.there (.there (.here))))))))) Tryd.sizeOf3 (by repeat constructor) rfl ?_); clear HO; intro wN HO; (try simp only [Act.put, List.setIfInBounds_toArray, List.set_cons_zero, List.set_cons_succ])))))
        go_ret
        exact ⟨rfl, HO.below⟩
    all_goals clear HE
    case' inl => have hw := upB_ways c1 c2 c3 c1 1 rfl
    case' inr.inl => have hw := upB_ways c1 c2 c3 c2 2 rfl
    case' inr.inr.inl => have hw := upB_ways c1 c2 c3 c3 3 rfl
    all_goals
      rcases hw with ⟨q, hu⟩ | ⟨q, q0, hu⟩ | ⟨q, q0, q1, hu⟩ | ⟨q, q0, q1, hu⟩
      all_goals
        rw [q]
        have HU := Lib.hid hu
        clear q hu
        go_wp2_with (first
      | ((with_reducible refine gate ?_); (first
      | ((refine own_box HO rfl rfl rfl ?_); clear HO; intro gN wN hgN HO; (simp only [List.nil_append, List.cons_append] at HO); (try simp only [Act.put, List.setIfInBounds_toArray, List.set_cons_zero, List.set_cons_succ]))
      | ((refine own_load1 (T := 3) HO rfl rfl rfl (by first | exact .head _ | exact .tail _ (.head _)) Tryd.isAgg3 rfl ?_); (try simp only [Act.put, List.setIfInBounds_toArray, List.set_cons_zero, List.set_cons_succ]))
      | ((refine own_store (T := 3) HO rfl rfl rfl rfl (by first | exact .here | exact .there (.here)) Tryd.sizeOf3 (by repeat constructor) rfl ?_); clear HO; intro wN HO; (try simp only [Act.put, List.setIfInBounds_toArray, List.set_cons_zero, List.set_cons_succ])))))
        go_round
        case rel => first | exact ⟨2, .inr (.inl rfl), rfl, by rw [← HU.out]; rfl⟩ | exact ⟨3, .inr (.inr (.inl rfl)), rfl, by rw [← HU.out]; rfl⟩ | exact ⟨4, .inr (.inr (.inr rfl)), rfl, by rw [← HU.out]; rfl⟩
        case measure => simp [intOf]
set_option maxRecDepth 100000 in
set_option maxHeartbeats 16000000 in
theorem styleNone_H (b0 b1 b2 b3 b4 b5 b6 : Bool) (u f b n c0 c1 c2 c3 f' : Int) (hn : n = 99) (hA1 : AppAt (b0, b1, b2, b3, b4, b5, b6, u, f, b) (b0, b1, b2, b3, b4, b5, b6, u, f, b) [n] 1) (hA2 : AppAt (b0, b1, b2, b3, b4, b5, b6, u, f, b) (b0, b1, b2, b3, b4, b5, b6, u, f', b) [38, 2, c0, c1, c2, c3] 6) (hf' : f' = if G.rgbB c1 c2 c3 then 256 + c1 * 65536 + c2 * 256 + c3 else f) (w : World) (hT : Tab w) :
    Calls Tryd.prog 8 #[stV b0 b1 b2 b3 b4 b5 b6 u f b, .int .i64 n, .agg #[.int .i64 c0, .int .i64 c1, .int .i64 c2, .int .i64 c3]] w fun e w' => e = .returned (.bool true) ∧ Below w.heap.size w w' := by
  subst hn
  have HAW : Hid (∀ W, Below w.heap.size w W → Calls Tryd.prog 9 #[] W fun e w' => e = .returned (.bool true) ∧ Below W.heap.size W w') := Lib.hid (fun W hb => G.clavierlaw18_awake.calls 13000 true W (Tab.below hT hb) (G.awake18_is 13000 (by omega)))
  have HA1 := Lib.hid hA1
  have HA2 := Lib.hid hA2
  have HF := Lib.hid hf'
  have HE := style_equal b0 b1 b2 b3 b4 b5 b6 u f b
  have HO := Mine.start w
  clear hA1 hA2 hf' hT
  unfold AppAt at HA1 HA2
  unfold stV at *
  go_enter Tryd.func8, Tryd.ntmps8
  go_wp2_with (first
      | (go_at_call 9; refine (HAW.out _ HO.below).mono ?_; rintro eN wN ⟨rfl, hbN⟩; have HON := HO.call hbN; clear HO hbN; have HO := HON; clear HON)
      | (go_at_call 18; refine (HA1.out _ g1 g2 (HO.at (by first | exact .head _ | exact .tail _ (.head _) | exact .tail _ (.tail _ (.head _)) | exact .tail _ (.tail _ (.tail _ (.head _))) | exact .tail _ (.tail _ (.tail _ (.tail _ (.head _)))) | exact .tail _ (.tail _ (.tail _ (.tail _ (.tail _ (.head _))))) | exact .tail _ (.tail _ (.tail _ (.tail _ (.tail _ (.tail _ (.head _)))))) | exact .tail _ (.tail _ (.tail _ (.tail _ (.tail _ (.tail _ (.tail _ (.head _))))))) | exact .tail _ (.tail _ (.tail _ (.tail _ (.tail _ (.tail _ (.tail _ (.tail _ (.head _)))))))) | exact .tail _ (.tail _ (.tail _ (.tail _ (.tail _ (.tail _ (.tail _ (.tail _ (.tail _ (.head _))))))))) | exact .tail _ (.tail _ (.tail _ (.tail _ (.tail _ (.tail _ (.tail _ (.tail _ (.tail _ (.tail _ (.head _)))))))))) | exact .tail _ (.tail _ (.tail _ (.tail _ (.tail _ (.tail _ (.tail _ (.tail _ (.tail _ (.tail _ (.tail _ (.head _))))))))))))) (HO.at (by first | exact .head _ | exact .tail _ (.head _) | exact .tail _ (.tail _ (.head _)) | exact .tail _ (.tail _ (.tail _ (.head _))) | exact .tail _ (.tail _ (.tail _ (.tail _ (.head _)))) | exact .tail _ (.tail _ (.tail _ (.tail _ (.tail _ (.head _))))) | exact .tail _ (.tail _ (.tail _ (.tail _ (.tail _ (.tail _ (.head _)))))) | exact .tail _ (.tail _ (.tail _ (.tail _ (.tail _ (.tail _ (.tail _ (.head _))))))) | exact .tail _ (.tail _ (.tail _ (.tail _ (.tail _ (.tail _ (.tail _ (.tail _ (.head _)))))))) | exact .tail _ (.tail _ (.tail _ (.tail _ (.tail _ (.tail _ (.tail _ (.tail _ (.tail _ (.head _))))))))) | exact .tail _ (.tail _ (.tail _ (.tail _ (.tail _ (.tail _ (.tail _ (.tail _ (.tail _ (.tail _ (.head _)))))))))) | exact .tail _ (.tail _ (.tail _ (.tail _ (.tail _ (.tail _ (.tail _ (.tail _ (.tail _ (.tail _ (.tail _ (.head _)))))))))))))).mono ?_; clear HA1; rintro eN wN ⟨rfl, hbN⟩; have HON := HO.call hbN; clear HO hbN; have HO := HON; clear HON)
      | (go_at_call 18; refine (HA2.out _ g3 g4 (HO.at (by first | exact .head _ | exact .tail _ (.head _) | exact .tail _ (.tail _ (.head _)) | exact .tail _ (.tail _ (.tail _ (.head _))) | exact .tail _ (.tail _ (.tail _ (.tail _ (.head _)))) | exact .tail _ (.tail _ (.tail _ (.tail _ (.tail _ (.head _))))) | exact .tail _ (.tail _ (.tail _ (.tail _ (.tail _ (.tail _ (.head _)))))) | exact .tail _ (.tail _ (.tail _ (.tail _ (.tail _ (.tail _ (.tail _ (.head _))))))) | exact .tail _ (.tail _ (.tail _ (.tail _ (.tail _ (.tail _ (.tail _ (.tail _ (.head _)))))))) | exact .tail _ (.tail _ (.tail _ (.tail _ (.tail _ (.tail _ (.tail _ (.tail _ (.tail _ (.head _))))))))) | exact .tail _ (.tail _ (.tail _ (.tail _ (.tail _ (.tail _ (.tail _ (.tail _ (.tail _ (.tail _ (.head _)))))))))) | exact .tail _ (.tail _ (.tail _ (.tail _ (.tail _ (.tail _ (.tail _ (.tail _ (.tail _ (.tail _ (.tail _ (.head _))))))))))))) (HO.at (by first | exact .head _ | exact .tail _ (.head _) | exact .tail _ (.tail _ (.head _)) | exact .tail _ (.tail _ (.tail _ (.head _))) | exact .tail _ (.tail _ (.tail _ (.tail _ (.head _)))) | exact .tail _ (.tail _ (.tail _ (.tail _ (.tail _ (.head _))))) | exact .tail _ (.tail _ (.tail _ (.tail _ (.tail _ (.tail _ (.head _)))))) | exact .tail _ (.tail _ (.tail _ (.tail _ (.tail _ (.tail _ (.tail _ (.head _))))))) | exact .tail _ (.tail _ (.tail _ (.tail _ (.tail _ (.tail _ (.tail _ (.tail _ (.head _)))))))) | exact .tail _ (.tail _ (.tail _ (.tail _ (.tail _ (.tail _ (.tail _ (.tail _ (.tail _ (.head _))))))))) | exact .tail _ (.tail _ (.tail _ (.tail _ (.tail _ (.tail _ (.tail _ (.tail _ (.tail _ (.tail _ (.head _)))))))))) | exact .tail _ (.tail _ (.tail _ (.tail _ (.tail _ (.tail _ (.tail _ (.tail _ (.tail _ (.tail _ (.tail _ (.head _)))))))))))))).mono ?_; clear HA2; rintro eN wN ⟨rfl, hbN⟩; have HON := HO.call hbN; clear HO hbN; have HO := HON; clear HON)
      | ((with_reducible refine gate ?_); (first
      | ((with_reducible refine gateAt (N := 48) rfl ?_); refine own_lit HO rfl (n := 1) (cs := [.int .i64 99]) (T := 3) (by first | (go_simp; done) | (go_simp; rfl)) ?_; clear HO; intro g1 wN hgN HO; (simp only [List.nil_append, List.cons_append] at HO); (try simp only [Act.put, List.setIfInBounds_toArray, List.set_cons_zero, List.set_cons_succ]))
      | ((with_reducible refine gateAt (N := 49) rfl ?_); refine own_lit HO rfl (n := 1) (cs := [.slice (some ⟨g1, 0, none⟩) 1 1]) (T := 35) (by first | (go_simp; done) | (go_simp; rfl)) ?_; clear HO; intro g2 wN hgN HO; (simp only [List.nil_append, List.cons_append] at HO); (try simp only [Act.put, List.setIfInBounds_toArray, List.set_cons_zero, List.set_cons_succ]))
      | ((with_reducible refine gateAt (N := 60) rfl ?_); refine own_lit HO rfl (n := 6) (cs := [.int .i64 38, .int .i64 2, .int .i64 c0, .int .i64 c1, .int .i64 c2, .int .i64 c3]) (T := 3) (by first | (go_simp; done) | (go_simp; rfl)) ?_; clear HO; intro g3 wN hgN HO; (simp only [List.nil_append, List.cons_append] at HO); (try simp only [Act.put, List.setIfInBounds_toArray, List.set_cons_zero, List.set_cons_succ]))
      | ((with_reducible refine gateAt (N := 61) rfl ?_); refine own_lit HO rfl (n := 1) (cs := [.slice (some ⟨g3, 0, none⟩) 6 6]) (T := 35) (by first | (go_simp; done) | (go_simp; rfl)) ?_; clear HO; intro g4 wN hgN HO; (simp only [List.nil_append, List.cons_append] at HO); (try simp only [Act.put, List.setIfInBounds_toArray, List.set_cons_zero, List.set_cons_succ]))
      | ((refine own_eql (t := 23) rfl rfl rfl rfl (by kernel_rfl) HE.out ?_); (try simp only [Act.put, List.setIfInBounds_toArray, List.set_cons_zero, List.set_cons_succ]))
      | ((refine own_box HO rfl rfl rfl ?_); clear HO; intro gN wN hgN HO; (simp only [List.nil_append, List.cons_append] at HO); (try simp only [Act.put, List.setIfInBounds_toArray, List.set_cons_zero, List.set_cons_succ]))
      | ((refine own_alloc (T := 23) HO rfl rfl Tryd.zeroValue23 rfl ?_); clear HO; intro gN wN hgN HO; (simp only [List.nil_append, List.cons_append] at HO); (try simp only [Act.put, List.setIfInBounds_toArray, List.set_cons_zero, List.set_cons_succ]))
      | ((refine own_load (T := 23) HO rfl rfl rfl (by first | exact .head _ | exact .tail _ (.head _) | exact .tail _ (.tail _ (.head _)) | exact .tail _ (.tail _ (.tail _ (.head _))) | exact .tail _ (.tail _ (.tail _ (.tail _ (.head _)))) | exact .tail _ (.tail _ (.tail _ (.tail _ (.tail _ (.head _))))) | exact .tail _ (.tail _ (.tail _ (.tail _ (.tail _ (.tail _ (.head _)))))) | exact .tail _ (.tail _ (.tail _ (.tail _ (.tail _ (.tail _ (.tail _ (.head _))))))) | exact .tail _ (.tail _ (.tail _ (.tail _ (.tail _ (.tail _ (.tail _ (.tail _ (.head _)))))))) | exact .tail _ (.tail _ (.tail _ (.tail _ (.tail _ (.tail _ (.tail _ (.tail _ (.tail _ (.head _))))))))) | exact .tail _ (.tail _ (.tail _ (.tail _ (.tail _ (.tail _ (.tail _ (.tail _ (.tail _ (.tail _ (.head _)))))))))) | exact .tail _ (.tail _ (.tail _ (.tail _ (.tail _ (.tail _ (.tail _ (.tail _ (.tail _ (.tail _ (.tail _ (.head _)))))))))))) Tryd.isAgg23 Tryd.sizeOf23 (by repeat constructor) ?_); (try simp only [Act.put, List.setIfInBounds_toArray, List.set_cons_zero, List.set_cons_succ]))
      | ((refine own_load (T := 39) HO rfl rfl rfl (by first | exact .head _ | exact .tail _ (.head _) | exact .tail _ (.tail _ (.head _)) | exact .tail _ (.tail _ (.tail _ (.head _))) | exact .tail _ (.tail _ (.tail _ (.tail _ (.head _)))) | exact .tail _ (.tail _ (.tail _ (.tail _ (.tail _ (.head _))))) | exact .tail _ (.tail _ (.tail _ (.tail _ (.tail _ (.tail _ (.head _)))))) | exact .tail _ (.tail _ (.tail _ (.tail _ (.tail _ (.tail _ (.tail _ (.head _))))))) | exact .tail _ (.tail _ (.tail _ (.tail _ (.tail _ (.tail _ (.tail _ (.tail _ (.head _)))))))) | exact .tail _ (.tail _ (.tail _ (.tail _ (.tail _ (.tail _ (.tail _ (.tail _ (.tail _ (.head _))))))))) | exact .tail _ (.tail _ (.tail _ (.tail _ (.tail _ (.tail _ (.tail _ (.tail _ (.tail _ (.tail _ (.head _)))))))))) | exact .tail _ (.tail _ (.tail _ (.tail _ (.tail _ (.tail _ (.tail _ (.tail _ (.tail _ (.tail _ (.tail _ (.head _)))))))))))) Tryd.isAgg39 Tryd.sizeOf39 (by repeat constructor) ?_); (try simp only [Act.put, List.setIfInBounds_toArray, List.set_cons_zero, List.set_cons_succ]))
      | ((refine own_load1 (T := 3) HO rfl rfl rfl (by first | exact .head _ | exact .tail _ (.head _) | exact .tail _ (.tail _ (.head _)) | exact .tail _ (.tail _ (.tail _ (.head _))) | exact .tail _ (.tail _ (.tail _ (.tail _ (.head _)))) | exact .tail _ (.tail _ (.tail _ (.tail _ (.tail _ (.head _))))) | exact .tail _ (.tail _ (.tail _ (.tail _ (.tail _ (.tail _ (.head _)))))) | exact .tail _ (.tail _ (.tail _ (.tail _ (.tail _ (.tail _ (.tail _ (.head _))))))) | exact .tail _ (.tail _ (.tail _ (.tail _ (.tail _ (.tail _ (.tail _ (.tail _ (.head _)))))))) | exact .tail _ (.tail _ (.tail _ (.tail _ (.tail _ (.tail _ (.tail _ (.tail _ (.tail _ (.head _))))))))) | exact .tail _ (.tail _ (.tail _ (.tail _ (.tail _ (.tail _ (.tail _ (.tail _ (.tail _ (.tail _ (.head _)))))))))) | exact .tail _ (.tail _ (.tail _ (.tail _ (.tail _ (.tail _ (.tail _ (.tail _ (.tail _ (.tail _ (.tail _ (.head _)))))))))))) Tryd.isAgg3 rfl ?_); (try simp only [Act.put, List.setIfInBounds_toArray, List.set_cons_zero, List.set_cons_succ]))
      | ((refine own_store (T := 23) HO rfl rfl rfl rfl (by first | exact .here | exact .there (.here) | exact .there (.there (.here)) | exact .there (.there (.there (.here))) | exact .there (.there (.there (.there (.here)))) | exact .there (.there (.there (.there (.there (.here))))) | exact .there (.there (.there (.there (.there (.there (.here)))))) | exact .there (.there (.there (.there (.there (.there (.there (.here))))))) | exact .there (.there (.there (.there (.there (.there (.there (.there (.here)))))))) | exact .there (.there (.there (.there (.there (.there (.there (.there (.there (.here))))))))) | exact .there (.there (.there (.there (.there (.there (.there (.there (.there (.there (.here)))))))))) | exact .there (.there (.there (.there (.there (.there (.there (.there (.there (.there (.there (.here)))))))))))) Tryd.sizeOf23 (by repeat constructor) rfl ?_); clear HO; intro wN HO; (try simp only [Act.put, List.setIfInBounds_toArray, List.set_cons_zero, List.set_cons_succ]))
      | ((refine own_store (T := 39) HO rfl rfl rfl rfl (by first | exact .here | exact .there (.here) | exact .there (.there (.here)) | exact .there (.there (.there (.here))) | exact .there (.there (.there (.there (.here)))) | exact .there (.there (.there (.there (.there (.here))))) | exact .there (.there (.there (.there (.there (.there (.here)))))) | exact .there (.there (.there (.there (.there (.there (.there (.here))))))) | exact .there (.there (.there (.there (.there (.there (.there (.there (.here)))))))) | exact .there (.there (.there (.there (.there (.there (.there (.there (.there (.here))))))))) | exact .there (.there (.there (.there (.there (.there (.there (.there (.there (.there (.here)))))))))) | exact .there (.there (.there (.there (.there (.there (.there (.there (.there (.there (.there (.here)))))))))))) Tryd.sizeOf39 (by repeat constructor) rfl ?_); clear HO; intro wN HO; (try simp only [Act.put, List.setIfInBounds_toArray, List.set_cons_zero, List.set_cons_succ]))
      | ((refine own_store (T := 3) HO rfl rfl rfl rfl (by first | exact .here | exact .there (.here) | exact .there (.there (.here)) | exact .there (.there (.there (.here))) | exact .there (.there (.there (.there (.here)))) | exact .there (.there (.there (.there (.there (.here))))) | exact .there (.there (.there (.there (.there (.there (.here)))))) | exact .there (.there (.there (.there (.there (.there (.there (.here))))))) | exact .there (.there (.there (.there (.there (.there (.there (.there (.here)))))))) | exact .there (.there (.there (.there (.there (.there (.there (.there (.there (.here))))))))) | exact .there (.there (.there (.there (.there (.there (.there (.there (.there (.there (.here)))))))))) | exact .there (.there (.there (.there (.there (.there (.there (.there (.there (.there (.there (.here)))))))))))) Tryd.sizeOf3 (by repeat constructor) rfl ?_); clear HO; intro wN HO; (try simp only [Act.put, List.setIfInBounds_toArray, List.set_cons_zero, List.set_cons_succ])))))
  simp [Act.eval] at HO
  have HFF : Hid (∀ x, (if G.rgbB c1 c2 c3 then 256 + c1 * 65536 + c2 * 256 + c3 else f) = x → f' = x) := Lib.hid (fun x h => HF.out.trans h)
  clear HF
  go_loop [12, 13] (fun r i => ∃ z : Int, (z = 1 ∨ z = 2 ∨ z = 3 ∨ z = 4) ∧ i = .int .i64 z ∧ r = .bool (upB c1 c2 c3 z)) (fun _ i => (4 - intOf i).toNat)
  case atStart => exact ⟨1, .inl rfl, rfl, rfl⟩
  case round =>
    obtain ⟨z, hz, rfl, rfl⟩ := hrel
    rcases hz with rfl | rfl | rfl | rfl
    case inr.inr.inr =>
      have hR : upB c1 c2 c3 4 = G.rgbB c1 c2 c3 := upB_all c1 c2 c3
      rw [hR]
      clear hR
      cases hr : G.rgbB c1 c2 c3 with
      | false =>
        have e := HFF.out f (by rw [hr]; rfl)
        subst e
        clear HFF hr
        go_wp2_with (first
      | ((with_reducible refine gate ?_); (first
      | ((refine own_eql (t := 23) rfl rfl rfl rfl (by kernel_rfl) HE.out ?_); (try simp only [Act.put, List.setIfInBounds_toArray, List.set_cons_zero, List.set_cons_succ]))
      | ((refine own_box HO rfl rfl rfl ?_); clear HO; intro gN wN hgN HO; (simp only [List.nil_append, List.cons_append] at HO); (try simp only [Act.put, List.setIfInBounds_toArray, List.set_cons_zero, List.set_cons_succ]))
      | ((refine own_load (T := 23) HO rfl rfl rfl (by first | exact .head _ | exact .tail _ (.head _) | exact .tail _ (.tail _ (.head _)) | exact .tail _ (.tail _ (.tail _ (.head _))) | exact .tail _ (.tail _ (.tail _ (.tail _ (.head _)))) | exact .tail _ (.tail _ (.tail _ (.tail _ (.tail _ (.head _))))) | exact .tail _ (.tail _ (.tail _ (.tail _ (.tail _ (.tail _ (.head _)))))) | exact .tail _ (.tail _ (.tail _ (.tail _ (.tail _ (.tail _ (.tail _ (.head _))))))) | exact .tail _ (.tail _ (.tail _ (.tail _ (.tail _ (.tail _ (.tail _ (.tail _ (.head _))))))))) Tryd.isAgg23 Tryd.sizeOf23 (by repeat constructor) ?_); (try simp only [Act.put, List.setIfInBounds_toArray, List.set_cons_zero, List.set_cons_succ]))
      | ((refine own_load1 (T := 3) HO rfl rfl rfl (by first | exact .head _ | exact .tail _ (.head _) | exact .tail _ (.tail _ (.head _)) | exact .tail _ (.tail _ (.tail _ (.head _))) | exact .tail _ (.tail _ (.tail _ (.tail _ (.head _)))) | exact .tail _ (.tail _ (.tail _ (.tail _ (.tail _ (.head _))))) | exact .tail _ (.tail _ (.tail _ (.tail _ (.tail _ (.tail _ (.head _)))))) | exact .tail _ (.tail _ (.tail _ (.tail _ (.tail _ (.tail _ (.tail _ (.head _))))))) | exact .tail _ (.tail _ (.tail _ (.tail _ (.tail _ (.tail _ (.tail _ (.tail _ (.head _))))))))) Tryd.isAgg3 rfl ?_); (try simp only [Act.put, List.setIfInBounds_toArray, List.set_cons_zero, List.set_cons_succ]))
      | ((refine own_store (T := 23) HO rfl rfl rfl rfl (by first | exact .here | exact .there (.here) | exact .there (.there (.here)) | exact .there (.there (.there (.here))) | exact .there (.there (.there (.there (.here)))) | exact .there (.there (.there (.there (.there (.here))))) | exact .there (.there (.there (.there (.there (.there (.here)))))) | exact .there (.there (.there (.there (.there (.there (.there (.here))))))) | exact .there (.there (.there (.there (.there (.there (.there (.there (.here))))))))) Tryd.sizeOf23 (by repeat constructor) rfl ?_); clear HO; intro wN HO; (try simp only [Act.put, List.setIfInBounds_toArray, List.set_cons_zero, List.set_cons_succ]))
      | ((refine own_store (T := 3) HO rfl rfl rfl rfl (by first | exact .here | exact .there (.here) | exact .there (.there (.here)) | exact .there (.there (.there (.here))) | exact .there (.there (.there (.there (.here)))) | exact .there (.there (.there (.there (.there (.here))))) | exact .there (.there (.there (.there (.there (.there (.here)))))) | exact .there (.there (.there (.there (.there (.there (.there (.here))))))) | exact .there (.there (.there (.there (.there (.there (.there (.there (.here))))))))) Tryd.sizeOf3 (by repeat constructor) rfl ?_); clear HO; intro wN HO; (try simp only [Act.put, List.setIfInBounds_toArray, List.set_cons_zero, List.set_cons_succ])))))
        go_ret
        exact ⟨rfl, HO.below⟩
      | true =>
        have e := HFF.out _ (by rw [hr, if_pos rfl])
        simp only [G.rgbB, byteB, Bool.and_eq_true, decide_eq_true_eq] at hr
        obtain ⟨⟨l1, h1⟩, ⟨l2, h2⟩, l3, h3⟩ := hr
        have w1 : IntKind.i64.wrap (65536 * c1) = 65536 * c1 := IntWalk.i64_in _ (by omega)
        have w2 : IntKind.i64.wrap (256 + 65536 * c1) = 256 + 65536 * c1 := IntWalk.i64_in _ (by omega)
        have w3 : IntKind.i64.wrap (256 * c2) = 256 * c2 := IntWalk.i64_in _ (by omega)
        have w4 : IntKind.i64.wrap (256 + 65536 * c1 + 256 * c2) = 256 + 65536 * c1 + 256 * c2 := IntWalk.i64_in _ (by omega)
        have w5 : IntKind.i64.wrap (256 + 65536 * c1 + 256 * c2 + c3) = 256 + 65536 * c1 + 256 * c2 + c3 := IntWalk.i64_in _ (by omega)
        have HEQ : (f' == 256 + 65536 * c1 + 256 * c2 + c3) = true := beq_iff_eq.2 (by omega)
        clear HFF e l1 h1 l2 h2 l3 h3
        go_wp2_with (first
      | ((with_reducible refine gate ?_); (first
      | ((refine own_eql (t := 23) rfl rfl rfl rfl (by kernel_rfl) HE.out ?_); (try simp only [Act.put, List.setIfInBounds_toArray, List.set_cons_zero, List.set_cons_succ]))
      | ((refine own_box HO rfl rfl rfl ?_); clear HO; intro gN wN hgN HO; (simp only [List.nil_append, List.cons_append] at HO); (try simp only [Act.put, List.setIfInBounds_toArray, List.set_cons_zero, List.set_cons_succ]))
      | ((refine own_load (T := 23) HO rfl rfl rfl (by first | exact .head _ | exact .tail _ (.head _) | exact .tail _ (.tail _ (.head _)) | exact .tail _ (.tail _ (.tail _ (.head _))) | exact .tail _ (.tail _ (.tail _ (.tail _ (.head _)))) | exact .tail _ (.tail _ (.tail _ (.tail _ (.tail _ (.head _))))) | exact .tail _ (.tail _ (.tail _ (.tail _ (.tail _ (.tail _ (.head _)))))) | exact .tail _ (.tail _ (.tail _ (.tail _ (.tail _ (.tail _ (.tail _ (.head _))))))) | exact .tail _ (.tail _ (.tail _ (.tail _ (.tail _ (.tail _ (.tail _ (.tail _ (.head _))))))))) Tryd.isAgg23 Tryd.sizeOf23 (by repeat constructor) ?_); (try simp only [Act.put, List.setIfInBounds_toArray, List.set_cons_zero, List.set_cons_succ]))
      | ((refine own_load1 (T := 3) HO rfl rfl rfl (by first | exact .head _ | exact .tail _ (.head _) | exact .tail _ (.tail _ (.head _)) | exact .tail _ (.tail _ (.tail _ (.head _))) | exact .tail _ (.tail _ (.tail _ (.tail _ (.head _)))) | exact .tail _ (.tail _ (.tail _ (.tail _ (.tail _ (.head _))))) | exact .tail _ (.tail _ (.tail _ (.tail _ (.tail _ (.tail _ (.head _)))))) | exact .tail _ (.tail _ (.tail _ (.tail _ (.tail _ (.tail _ (.tail _ (.head _))))))) | exact .tail _ (.tail _ (.tail _ (.tail _ (.tail _ (.tail _ (.tail _ (.tail _ (.head _))))))))) Tryd.isAgg3 rfl ?_); (try simp only [Act.put, List.setIfInBounds_toArray, List.set_cons_zero, List.set_cons_succ]))
      | ((refine own_store (T := 23) HO rfl rfl rfl rfl (by first | exact .here | exact .there (.here) | exact .there (.there (.here)) | exact .there (.there (.there (.here))) | exact .there (.there (.there (.there (.here)))) | exact .there (.there (.there (.there (.there (.here))))) | exact .there (.there (.there (.there (.there (.there (.here)))))) | exact .there (.there (.there (.there (.there (.there (.there (.here))))))) | exact .there (.there (.there (.there (.there (.there (.there (.there (.here))))))))) Tryd.sizeOf23 (by repeat constructor) rfl ?_); clear HO; intro wN HO; (try simp only [Act.put, List.setIfInBounds_toArray, List.set_cons_zero, List.set_cons_succ]))
      | ((refine own_store (T := 3) HO rfl rfl rfl rfl (by first | exact .here | exact .there (.here) | exact .there (.there (.here)) | exact .there (.there (.there (.here))) | exact .there (.there (.there (.there (.here)))) | exact .there (.there (.there (.there (.there (.here))))) | exact .there (.there (.there (.there (.there (.there (.here)))))) | exact .there (.there (.there (.there (.there (.there (.there (.here))))))) | exact .there (.there (.there (.there (.there (.there (.there (.there (.here))))))))) Tryd.sizeOf3 (by repeat constructor) rfl ?_); clear HO; intro wN HO; (try simp only [Act.put, List.setIfInBounds_toArray, List.set_cons_zero, List.set_cons_succ])))))
        go_ret
        exact ⟨rfl, HO.below⟩
    all_goals clear HE
    case' inl => have hw := upB_ways c1 c2 c3 c1 1 rfl
    case' inr.inl => have hw := upB_ways c1 c2 c3 c2 2 rfl
    case' inr.inr.inl => have hw := upB_ways c1 c2 c3 c3 3 rfl
    all_goals
      rcases hw with ⟨q, hu⟩ | ⟨q, q0, hu⟩ | ⟨q, q0, q1, hu⟩ | ⟨q, q0, q1, hu⟩
      all_goals
        rw [q]
        have HU := Lib.hid hu
        clear q hu
        go_wp2_with (first
      | ((with_reducible refine gate ?_); (first
      | ((refine own_box HO rfl rfl rfl ?_); clear HO; intro gN wN hgN HO; (simp only [List.nil_append, List.cons_append] at HO); (try simp only [Act.put, List.setIfInBounds_toArray, List.set_cons_zero, List.set_cons_succ]))
      | ((refine own_load1 (T := 3) HO rfl rfl rfl (by first | exact .head _ | exact .tail _ (.head _)) Tryd.isAgg3 rfl ?_); (try simp only [Act.put, List.setIfInBounds_toArray, List.set_cons_zero, List.set_cons_succ]))
      | ((refine own_store (T := 3) HO rfl rfl rfl rfl (by first | exact .here | exact .there (.here)) Tryd.sizeOf3 (by repeat constructor) rfl ?_); clear HO; intro wN HO; (try simp only [Act.put, List.setIfInBounds_toArray, List.set_cons_zero, List.set_cons_succ])))))
        go_round
        case rel => first | exact ⟨2, .inr (.inl rfl), rfl, by rw [← HU.out]; rfl⟩ | exact ⟨3, .inr (.inr (.inl rfl)), rfl, by rw [← HU.out]; rfl⟩ | exact ⟨4, .inr (.inr (.inr rfl)), rfl, by rw [← HU.out]; rfl⟩
        case measure => simp [intOf]
theorem styleNone_calls (b0 b1 b2 b3 b4 b5 b6 : Bool) (u f b n c0 c1 c2 c3 : Int) (hn : -9223372036854775808 ≤ n ∧ n ≤ 9223372036854775807) (h0 : -9223372036854775808 ≤ c0 ∧ c0 ≤ 9223372036854775807) (h1 : -9223372036854775808 ≤ c1 ∧ c1 ≤ 9223372036854775807) (h2 : -9223372036854775808 ≤ c2 ∧ c2 ≤ 9223372036854775807) (h3 : -9223372036854775808 ≤ c3 ∧ c3 ≤ 9223372036854775807) (w : World) (hT : Tab w) :
    Calls Tryd.prog 8 #[stV b0 b1 b2 b3 b4 b5 b6 u f b, .int .i64 n, .agg #[.int .i64 c0, .int .i64 c1, .int .i64 c2, .int .i64 c3]] w fun e w' => e = .returned (.bool true) ∧ Below w.heap.size w w' := by
  have hA1 := app_at (b0, b1, b2, b3, b4, b5, b6, u, f, b) [n] 1 rfl (by omega) (by intro z hz; rw [List.mem_singleton.1 hz]; exact hn)
  have hA2 := app_at (b0, b1, b2, b3, b4, b5, b6, u, f, b) [38, 2, c0, c1, c2, c3] 6 rfl (by omega) (by
    intro z hz
    simp only [List.mem_cons, List.not_mem_nil, or_false] at hz
    rcases hz with rfl | rfl | rfl | rfl | rfl | rfl
    · decide
    · decide
    · exact h0
    · exact h1
    · exact h2
    · exact h3)
  rw [G.colour_one] at hA2
  have un : (n = 6 ∨ 10 ≤ n ∧ n < 30 ∨ 50 ≤ n ∧ n < 90 ∨ n = 98 ∨ n = 99 ∨ 107 < n) → AppAt (b0, b1, b2, b3, b4, b5, b6, u, f, b) (b0, b1, b2, b3, b4, b5, b6, u, f, b) [n] 1 := fun h => by rw [G.none_one _ _ _ _ _ _ _ _ _ _ _ h] at hA1; exact hA1
  have hk : ((n ≤ 9 ∧ n ≠ 6) ∨ (30 ≤ n ∧ n ≤ 49) ∨ (90 ≤ n ∧ n ≤ 97 ∨ 100 ≤ n ∧ n ≤ 107)) ∨ ((10 ≤ n ∧ n < 30) ∨ (50 ≤ n ∧ n < 90) ∨ 107 < n) ∨ n = 6 ∨ n = 98 ∨ n = 99 := by omega
  rcases hk with h | h | h | h | h
  · exact styleNone_known b0 b1 b2 b3 b4 b5 b6 u f b n c0 c1 c2 c3 _ _ _ _ _ _ _ _ _ _ _ h hA1 hA2 rfl w hT
  · exact styleNone_un b0 b1 b2 b3 b4 b5 b6 u f b n c0 c1 c2 c3 _ h (un (by omega)) hA2 rfl w hT
  · exact styleNone_B b0 b1 b2 b3 b4 b5 b6 u f b n c0 c1 c2 c3 _ h (un (by omega)) hA2 rfl w hT
  · exact styleNone_G b0 b1 b2 b3 b4 b5 b6 u f b n c0 c1 c2 c3 _ h (un (by omega)) hA2 rfl w hT
  · exact styleNone_H b0 b1 b2 b3 b4 b5 b6 u f b n c0 c1 c2 c3 _ h (un (by omega)) hA2 rfl w hT
end Go.Proofs.YtbaigfoioiklkaaDoor
end
