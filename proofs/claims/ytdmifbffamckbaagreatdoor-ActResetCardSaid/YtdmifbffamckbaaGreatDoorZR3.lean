/- R: texts run together by shake.py: AcJ Greporta AcK MoD AcS Gslicesa Gstacka AcL AcM FrA AcN Gclavierref02a Gclavierref08a AcO AcP AcQ AcR. -/
import Derived.ArgAppend
import Derived.Below
import Derived.BigFrameIn
import Derived.BigQuiet
import Derived.ChangeKeysEq
import Derived.ChangeOld
import Derived.ChangeSlices
import Derived.Deep.AppendLies
import Derived.Deep.CutBlock
import Derived.Deep.DeepCutAuto
import Derived.Deep.DeepHandedRow
import Derived.Deep.Draws
import Derived.Deep.LoopGhost
import Derived.Deep.OwnRows
import Derived.Deep.Quiet
import Derived.Deep.QuietTactic
import Derived.Deep.RegionHeld3
import Derived.DeepKeys3
import Derived.Ground.GgzProg
import Derived.Ground.Names2Prog
import Derived.Ground.SlgnProg
import Derived.KernelRfl
import Derived.Laws.AppendOwn
import Derived.Laws.AppendOwnNone
import Derived.Laws.BitsLemmas
import Derived.Laws.BytesArg
import Derived.Laws.Concat
import Derived.Laws.CopyRow
import Derived.Laws.IdiomCopy
import Derived.Laws.IdiomStrings
import Derived.Laws.MakeOwn
import Derived.Laws.OwnMore
import Derived.Laws.Rows
import Derived.Laws.Slices
import Derived.Laws.StructEq
import Derived.Laws.Tables
import Derived.Lib.AppendIntMem
import Derived.Lib.AppendStr
import Derived.Lib.ConvBytes
import Derived.Lib.Hide
import Derived.Lib.ItoaLen
import Derived.Lib.ItoaNum
import Derived.Lib.LaidTab
import Derived.LoopIn
import Derived.MapKept
import Derived.Maps.AppendAt
import Derived.OpenShut
import Derived.Orders
import Derived.OrdersHeld
import Derived.OrdersIn
import Derived.Outline
import Derived.OwnWalk
import Derived.ProofKit
import Derived.RangeFuncCalls
import Derived.RangeFuncNested
import Derived.RangeFuncWrites
import Derived.RowKit
import Derived.RowKit3
import Derived.Shelf.Abstract
import Derived.Shelf.LaysM
import Derived.Shelf.SlIterI.Nil
import Derived.Shelf.Slices.Clone
import Derived.Shelf.Slices.Empties2
import Derived.Shelf.Slices.Equal
import Derived.Shelf.Slices.In.SortNone
import Derived.Shelf.Slices.SearchI
import Derived.Shelf.Slices.Turned
import Derived.Shelf.SlicesE.Clone
import Derived.Shelf.Small.Bits
import Derived.Shelf.Small.Strs
import Derived.Shelf.Small.Utf8
import Derived.Shelf.Small.Wraps
import Derived.Shelf.Sort.Plain
import Derived.Shelf.Strconv.Itoa0
import Derived.Shelf.Strconv.Itoa1
import Derived.Shelf.Strconv.Itoa2
import Derived.Shelf.Strconv.Itoa3
import Derived.Shelf.Strings.Builder1
import Derived.Shelf.Strings.Builder2
import Derived.Shelf.Strings.Builder2Cap
import Derived.Shelf.Strings.BuilderCap
import Derived.Shelf.Strings.BuilderF
import Derived.Shelf.Strings.BuilderK
import Derived.Shelf.Strings.OnBuilder
import Derived.Shelf.Strings.Runes
import Derived.Shelf.Strings.Search1
import Derived.Shelf.Strings.Search2
import Derived.Shelf.Strings.Search3
import Derived.Shelf.Strings.Shaped
import Derived.Shelf.Unicode.Decode
import Derived.Shelf.Unicode.DecodeAny
import Derived.Shelf.Unicode.DecodeSlow
import Derived.ShutString
import Derived.SizedLaws
import Derived.Still
import Derived.Stop.LaidErr
import Derived.Tactics
import Derived.TacticsIn
import Derived.Test.YtdmifbffamckbaaGreatDoorCards
import Derived.Test.YtdmifbffamckbaaGreatDoorProg
import Derived.Test.YtdmifbffamckbaaGreatDoorTie
import Derived.WalkKit
import Derived.WalkLawsBesides
import Derived.WalkSpells
import Derived.WideLaws
import Derived.Test.YtdmifbffamckbaaGreatDoorZR1
import Derived.Test.YtdmifbffamckbaaGreatDoorZR2
section
namespace Go.Proofs.YtdmifbffamckbaaGreatDoor
set_option linter.unusedVariables false
set_option linter.unusedSimpArgs false
open Go.RowKit Kit Go.Shelf Go.Proofs.YtdmifbffamckbaaGreatDoorW.PrintWords
section
variable {P : Program} {l : List Oper} {s i : Nat} {os o : Oper} {W0 w0 : World} {bs bs' : Res} {fs fs' : List Fact} {vals : Nat → Value} {A : Act}
theorem owes_before (h1 : i ≠ s) (h2 : waits l.toArray os i = true) (h : ∀ w, (∀ j, waits l.toArray o j = true → Facts fs j (vals j) w) → Mine W0 w bs → Below w0.heap.size w0 w → StepOk P l.toArray o A w fun v w' => Below w.heap.size w w' ∧ Facts fs i v w') : Owes P l s os W0 w0 bs bs' fs fs' vals A i o := by
  unfold Owes; rw [if_neg h1, if_pos h2]; exact h
theorem owes_after (h1 : i ≠ s) (h2 : waits l.toArray os i = false) (h : ∀ w, (∀ j, waits l.toArray o j = true → Facts fs j (vals j) w ∨ Facts fs' j (vals j) w) → StepOk P l.toArray o A w fun v w' => w' = w ∧ Facts fs i v w ∧ Facts fs' i v w) : Owes P l s os W0 w0 bs bs' fs fs' vals A i o := by
  unfold Owes; rw [if_neg h1, if_neg (by rw [h2]; decide)]; exact h
theorem owes_store (h : ∀ w, (∀ j, waits l.toArray o j = true → Facts fs j (vals j) w) → Mine W0 w bs → Below w0.heap.size w0 w → StepOk P l.toArray o A w fun v w' => Mine W0 w' bs' ∧ Facts fs' s v w' ∧ ∀ j, j ≠ s → Facts fs j (vals j) w → Facts fs' j (vals j) w') : Owes P l s os W0 w0 bs bs' fs fs' vals A s o := by
  unfold Owes; rw [if_pos rfl]; exact h
end
def stM (m : Md) (rest : List Value) : List Value := .bool m.cursor :: .bool m.keypad :: .bool m.back :: .bool m.focus :: .bool m.paste :: .bool m.lock :: .bool m.line :: .int .i64 m.mouse :: .int .i64 m.coding :: .int .i64 m.other :: rest
def setAll (pr on : Bool) (m : Md) (l : List Int) : Md := l.foldl (fun m n => (setM m pr n on).1) m
attribute [local irreducible] wpList Calls wpQuiet
attribute [local go_sem] Oper.semAt_some
set_option maxRecDepth 100000 in
set_option maxHeartbeats 8000000 in
theorem set_ok (w : World) (m : Md) (rest : List Value) (hrest : rest.length = 14) (sc : List Value) (k p f : Int) (i dt : ByteArray) (A : Option Addr) (c : Nat) (l : List (List Int)) (hc : l.length ≤ c) (h63 : l.length ≤ 4611686018427387904) (hr : SeqAt w A l) :
    DeedOk w (stM m rest) (stM (setAll (p == 63) (f == 104) m (nums l)) rest) (.plain 46) (.agg sc.toArray) (.agg #[.int .i64 k, .int .u8 p, .slice A l.length c, .string i, .int .u8 f, .string dt]) (fun v R => v = .slice none 0 0) := by
  intro gs bs v W hv HO
  obtain rfl : v = .func (.func 46) #[] #[] := hv
  refine ⟨_, _, rfl, enters_of Tryz.func46 (by kernel_rfl) rfl, ?_⟩
  rw [Array.append_empty]
  refine (callsIn_wide (n := 5)).1 ?_
  refine callsIn_of_wp_marks Tryz.func46 rfl trivial ?_ rfl
  simp only [Tryz.ntmps46, List.size_toArray, List.length_cons, List.length_nil, Nat.reduceAdd, Nat.reduceSub, Array.replicate_succ, Array.replicate_zero, List.push_toArray, List.append_toArray, List.nil_append, List.cons_append]
  refine wpIn_seq ?_
  refine wideRegion ?_
  go_wp2_with (first
    | ((with_reducible refine gateAt (N := 3) rfl ?_); refine own_boxF (T := 71) (cs := [.pointer (some ⟨gs, 0, none⟩)]) HO rfl rfl rfl ?_; clear HO; intro gp wN hggp HO; (try simp only [Act.put, List.setIfInBounds_toArray, List.set_cons_zero, List.set_cons_succ]))
    | ((with_reducible refine gateAt (N := 4) rfl ?_); refine own_boxF (T := 34) (cs := sc) HO rfl rfl rfl ?_; clear HO; intro gf wN hggf HO; (try simp only [Act.put, List.setIfInBounds_toArray, List.set_cons_zero, List.set_cons_succ]))
    | ((with_reducible refine gateAt (N := 5) rfl ?_); refine own_boxF (T := 37) (cs := [.int .i64 k, .int .u8 p, .slice A l.length c, .string i, .int .u8 f, .string dt]) HO rfl rfl rfl ?_; clear HO; intro gq wN hggq HO; (try simp only [Act.put, List.setIfInBounds_toArray, List.set_cons_zero, List.set_cons_succ])))
  refine wpIn_seq ?_
  refine wpIn_seq ?_
  refine wideRegion ?_
  go_wp2_with (first
    | (go_at_call 81; refine (each_calls k p f i dt A l.length c _).mono ?_; rintro eN wN ⟨gD, rfl, HM⟩; have HON := HO.join HM; clear HO HM; have HO := HON; clear HON)
    | (first
      | ((with_reducible refine gate ?_); (first
      | ((refine own_load (T := 37) HO rfl rfl rfl (by first | exact .head _ | exact .tail _ (.head _) | exact .tail _ (.tail _ (.head _)) | exact .tail _ (.tail _ (.tail _ (.head _))) | exact .tail _ (.tail _ (.tail _ (.tail _ (.head _)))) | exact .tail _ (.tail _ (.tail _ (.tail _ (.tail _ (.head _)))))) Tryz.isAgg37 Tryz.sizeOf37 (by repeat constructor) ?_); (try simp only [Act.put, List.setIfInBounds_toArray, List.set_cons_zero, List.set_cons_succ]))
      | ((refine own_store (T := 37) HO rfl rfl rfl rfl (by first | exact .here | exact .there (.here) | exact .there (.there (.here)) | exact .there (.there (.there (.here))) | exact .there (.there (.there (.there (.here)))) | exact .there (.there (.there (.there (.there (.here)))))) Tryz.sizeOf37 (by repeat constructor) rfl ?_); clear HO; intro wN HO; (try simp only [Act.put, List.setIfInBounds_toArray, List.set_cons_zero, List.set_cons_succ]))))))
  refine wpIn_block ?_
  have HY := Lib.hid (each_yields w k p f i dt A c l hc h63 hr gD)
  obtain ⟨pr, hpr⟩ : ∃ pr, (p == 63) = pr := ⟨_, rfl⟩
  obtain ⟨on, hon⟩ : ∃ on, (f == 104) = on := ⟨_, rfl⟩
  rw [hpr, hon]
  have HO2 : Mine w wN (((gq, IsCells [.int .i64 k, .int .u8 p, .slice A l.length c, .string i, .int .u8 f, .string dt] 37) :: (gf, IsCells sc 34) :: (gp, IsCells [.pointer (some ⟨gs, 0, none⟩)] 71) :: (gs, IsCells (stM m rest) 44) :: bs) ++ [(gD, IsCells [.int .i64 k, .int .u8 p, .slice A l.length c, .string i, .int .u8 f, .string dt] 37)]) := HO
  clear HO hc h63 hr
  refine wpIn_range_mine (gf := 122) (lb := #[.pointer (some ⟨gD, 0, none⟩)]) rfl (enters_of Tryz.func122 (by kernel_rfl) rfl) HY.out (fun _ => rfl)
    (fun pre b2 => b2 = (((gq, IsCells [.int .i64 k, .int .u8 p, .slice A l.length c, .string i, .int .u8 f, .string dt] 37) :: (gf, IsCells sc 34) :: (gp, IsCells [.pointer (some ⟨gs, 0, none⟩)] 71) :: (gs, IsCells (stM (setAll pr on m pre) rest) 44) :: bs))) (fun c pre b2 => False) HO2 rfl
    (fun x => { tmps := #[.pointer (some ⟨gs, 0, none⟩), .agg sc.toArray, .agg #[.int .i64 k, .int .u8 p, .slice A l.length c, .string i, .int .u8 f, .string dt], .pointer (some ⟨gp, 0, none⟩), .pointer (some ⟨gf, 0, none⟩), .pointer (some ⟨gq, 0, none⟩), .slice none 0 0, .int .i64 x, .agg #[.int .i64 k, .int .u8 p, .slice A l.length c, .string i, .int .u8 f, .string dt], .func (.func 122) #[] #[.pointer (some ⟨gD, 0, none⟩)], .int .i64 x, undef, undef, undef, undef, undef, undef, undef, undef, undef, undef, undef, undef, undef, undef, undef, undef, undef, undef], defers := [] }) ?assign ?body ?done ?stop
  case assign =>
    intro m' l2 x W3 K hK
    gi_wp2
    exact hK
  case body =>
    rintro m' l2 pre x post W2 bs2 fr hxs rfl HM
    obtain ⟨F, hF⟩ : ∃ F, setAll pr on m pre = F := ⟨_, rfl⟩
    obtain ⟨⟨r, ok⟩, hrr⟩ : ∃ r, setM F pr x on = r := ⟨_, rfl⟩
    have hst : setAll pr on m (pre ++ [x]) = r := by
      unfold setAll at hF ⊢
      rw [List.foldl_append, hF]
      show (setM F pr x on).1 = r
      rw [hrr]
    rw [hF] at HM
    have HO : Mine w W2 (((gq, IsCells [.int .i64 k, .int .u8 p, .slice A l.length c, .string i, .int .u8 f, .string dt] 37) :: (gf, IsCells sc 34) :: (gp, IsCells [.pointer (some ⟨gs, 0, none⟩)] 71) :: (gs, IsCells (.bool F.cursor :: .bool F.keypad :: .bool F.back :: .bool F.focus :: .bool F.paste :: .bool F.lock :: .bool F.line :: .int .i64 F.mouse :: .int .i64 F.coding :: .int .i64 F.other :: rest) 44) :: bs) ++ fr) := HM
    have HSC := Lib.hid fun W => set_calls F pr x on W
    have HRR := Lib.hid hrr
    have HST := Lib.hid hst
    clear HM hF hrr hst HO2 hxs
    refine wpIn_block ?_
    refine region_putIn rfl 18 _ [fIs (.pointer (some ⟨gs, 0, none⟩)), fIs (.pointer (some ⟨gs, 0, none⟩)), fIs (.pointer (some ⟨gs, 0, none⟩)), fIs (.pointer (some ⟨gs, 0, none⟩)), fIs (F.v), fIs (.pointer (some ⟨gq, 1, none⟩)), fIs (.int .u8 p), fIs (.bool pr), fIs (.int .i64 x), fIs (.pointer (some ⟨gq, 4, none⟩)), fIs (.int .u8 f), fIs (.bool on), fIs (.tuple #[r.v, .bool ok]), fIs (.tuple #[r.v, .bool ok]), fIs (r.v), fIs (.bool ok), fIs (.pointer (some ⟨gs, 0, none⟩)), fIs (.pointer (some ⟨gs, 0, none⟩))] ([fIs (.pointer (some ⟨gs, 0, none⟩)), fIs (.pointer (some ⟨gs, 0, none⟩)), fIs (.pointer (some ⟨gs, 0, none⟩)), fIs (.pointer (some ⟨gs, 0, none⟩)), fIs (F.v), fIs (.pointer (some ⟨gq, 1, none⟩)), fIs (.int .u8 p), fIs (.bool pr), fIs (.int .i64 x), fIs (.pointer (some ⟨gq, 4, none⟩)), fIs (.int .u8 f), fIs (.bool on), fIs (.tuple #[r.v, .bool ok]), fIs (.tuple #[r.v, .bool ok]), fIs (r.v), fIs (.bool ok), fIs (.pointer (some ⟨gs, 0, none⟩)), fIs (.pointer (some ⟨gs, 0, none⟩))] ++ [fun _ _ => True]) HO (by kernel_rfl) (by kernel_rfl) rfl (stays_cons (Stays.fIs _) (stays_cons (Stays.fIs _) (stays_cons (Stays.fIs _) (stays_cons (Stays.fIs _) (stays_cons (Stays.fIs _) (stays_cons (Stays.fIs _) (stays_cons (Stays.fIs _) (stays_cons (Stays.fIs _) (stays_cons (Stays.fIs _) (stays_cons (Stays.fIs _) (stays_cons (Stays.fIs _) (stays_cons (Stays.fIs _) (stays_cons (Stays.fIs _) (stays_cons (Stays.fIs _) (stays_cons (Stays.fIs _) (stays_cons (Stays.fIs _) (stays_cons (Stays.fIs _) (stays_cons (Stays.fIs _) stays_nil)))))))))))))))))) (stays_cons (Stays.fIs _) (stays_cons (Stays.fIs _) (stays_cons (Stays.fIs _) (stays_cons (Stays.fIs _) (stays_cons (Stays.fIs _) (stays_cons (Stays.fIs _) (stays_cons (Stays.fIs _) (stays_cons (Stays.fIs _) (stays_cons (Stays.fIs _) (stays_cons (Stays.fIs _) (stays_cons (Stays.fIs _) (stays_cons (Stays.fIs _) (stays_cons (Stays.fIs _) (stays_cons (Stays.fIs _) (stays_cons (Stays.fIs _) (stays_cons (Stays.fIs _) (stays_cons (Stays.fIs _) (stays_cons (Stays.fIs _) (stays_cons (fun _ _ _ h _ => h) stays_nil))))))))))))))))))) (bs' := ((gq, IsCells [.int .i64 k, .int .u8 p, .slice A l.length c, .string i, .int .u8 f, .string dt] 37) :: (gf, IsCells sc 34) :: (gp, IsCells [.pointer (some ⟨gs, 0, none⟩)] 71) :: (gs, IsCells (.bool r.cursor :: .bool r.keypad :: .bool r.back :: .bool r.focus :: .bool r.paste :: .bool r.lock :: .bool r.line :: .int .i64 r.mouse :: .int .i64 r.coding :: .int .i64 r.other :: rest) 44) :: bs) ++ fr) ?_
    intro vals A hA
    simp [fillL, dstOf, List.range, List.range.loop, Act.put] at hA
    subst hA
    refine ⟨⟨?_, ?_, ?_, ?_, ?_, ?_, ?_, ?_, ?_, ?_, ?_, ?_, ?_, ?_, ?_, ?_, ?_, ?_, ?_, trivial⟩, ?_⟩
    case refine_1 =>
      refine owes_before (by decide) (by kernel_rfl) ?_
      intro W3 hd hM hb0
      exact st_load1 hM rfl rfl rfl (.tail _ (.tail _ (.head _))) Tryz.isAgg71 rfl rfl
    case refine_2 =>
      refine owes_before (by decide) (by kernel_rfl) ?_
      intro W3 hd hM hb0
      exact st_load1 hM rfl rfl rfl (.tail _ (.tail _ (.head _))) Tryz.isAgg71 rfl rfl
    case refine_3 =>
      refine owes_before (by decide) (by kernel_rfl) ?_
      intro W3 hd hM hb0
      have v1 : vals 1 = .pointer (some ⟨gs, 0, none⟩) := hd 1 (by kernel_rfl)
      rw [v1]
      exact st_val rfl (by simp only [execOp]; first | (go_simp; done) | (go_simp; rfl)) rfl
    case refine_4 =>
      refine owes_before (by decide) (by kernel_rfl) ?_
      intro W3 hd hM hb0
      have v2 : vals 2 = .pointer (some ⟨gs, 0, none⟩) := hd 2 (by kernel_rfl)
      rw [v2]
      exact st_val rfl (by simp only [execOp]; first | (go_simp; done) | (go_simp; rfl)) rfl
    case refine_5 =>
      refine owes_before (by decide) (by kernel_rfl) ?_
      intro W3 hd hM hb0
      have v3 : vals 3 = .pointer (some ⟨gs, 0, none⟩) := hd 3 (by kernel_rfl)
      rw [v3]
      exact st_load hM rfl rfl rfl (.tail _ (.tail _ (.tail _ (.head _)))) Tryz.isAgg23 Tryz.sizeOf23 (by repeat constructor) rfl
    case refine_6 =>
      refine owes_before (by decide) (by kernel_rfl) ?_
      intro W3 hd hM hb0
      exact st_val rfl (by simp only [execOp]; first | (go_simp; done) | (go_simp; rfl)) rfl
    case refine_7 =>
      refine owes_before (by decide) (by kernel_rfl) ?_
      intro W3 hd hM hb0
      have v5 : vals 5 = .pointer (some ⟨gq, 1, none⟩) := hd 5 (by kernel_rfl)
      rw [v5]
      exact st_load1 hM rfl rfl rfl (.head _) Tryz.isAgg5 rfl rfl
    case refine_8 =>
      refine owes_before (by decide) (by kernel_rfl) ?_
      intro W3 hd hM hb0
      have v6 : vals 6 = .int .u8 p := hd 6 (by kernel_rfl)
      rw [v6]
      exact st_val rfl (by simp only [execOp]; first | (go_simp; done) | (go_simp; rfl)) rfl
    case refine_9 =>
      refine owes_before (by decide) (by kernel_rfl) ?_
      intro W3 hd hM hb0
      exact st_val rfl (by simp only [execOp]; first | (go_simp; done) | (go_simp; rfl)) rfl
    case refine_10 =>
      refine owes_before (by decide) (by kernel_rfl) ?_
      intro W3 hd hM hb0
      exact st_val rfl (by simp only [execOp]; first | (go_simp; done) | (go_simp; rfl)) rfl
    case refine_11 =>
      refine owes_before (by decide) (by kernel_rfl) ?_
      intro W3 hd hM hb0
      have v9 : vals 9 = .pointer (some ⟨gq, 4, none⟩) := hd 9 (by kernel_rfl)
      rw [v9]
      exact st_load1 hM rfl rfl rfl (.head _) Tryz.isAgg5 rfl rfl
    case refine_12 =>
      refine owes_before (by decide) (by kernel_rfl) ?_
      intro W3 hd hM hb0
      have v10 : vals 10 = .int .u8 f := hd 10 (by kernel_rfl)
      rw [v10]
      exact st_val rfl (by simp only [execOp]; first | (go_simp; done) | (go_simp; rfl)) rfl
    case refine_13 =>
      refine owes_before (by decide) (by kernel_rfl) ?_
      intro W3 hd hM hb0
      have v4 : vals 4 = F.v := hd 4 (by kernel_rfl)
      have v7 : vals 7 = .bool pr := hd 7 (by kernel_rfl)
      have v8 : vals 8 = .int .i64 x := hd 8 (by kernel_rfl)
      have v11 : vals 11 = .bool on := hd 11 (by kernel_rfl)
      rw [v4, v7, v8, v11]
      have hq := HSC.out W3
      rw [HRR.out] at hq
      exact st_call rfl (by simp only [execOp]; first | (go_simp; done) | (go_simp; rfl)) hq (by rintro e w' ⟨rfl, hb⟩; exact ⟨_, rfl, hb, rfl⟩)
    case refine_14 =>
      refine owes_before (by decide) (by kernel_rfl) ?_
      intro W3 hd hM hb0
      have v12 : vals 12 = .tuple #[r.v, .bool ok] := hd 12 (by kernel_rfl)
      rw [v12]
      exact st_val rfl (by simp only [execOp]; first | (go_simp; done) | (go_simp; rfl)) rfl
    case refine_15 =>
      refine owes_before (by decide) (by kernel_rfl) ?_
      intro W3 hd hM hb0
      have v13 : vals 13 = .tuple #[r.v, .bool ok] := hd 13 (by kernel_rfl)
      rw [v13]
      exact st_val rfl (by simp only [execOp]; first | (go_simp; done) | (go_simp; rfl)) rfl
    case refine_16 =>
      refine owes_after (by decide) (by kernel_rfl) ?_
      intro W3 hd
      have v13 : vals 13 = .tuple #[r.v, .bool ok] := (hd 13 (by kernel_rfl)).elim id id
      rw [v13]
      exact st_pure rfl (fun w => by simp only [execOp]; first | (go_simp; done) | (go_simp; rfl)) ⟨rfl, rfl⟩
    case refine_17 =>
      refine owes_before (by decide) (by kernel_rfl) ?_
      intro W3 hd hM hb0
      have v0 : vals 0 = .pointer (some ⟨gs, 0, none⟩) := hd 0 (by kernel_rfl)
      rw [v0]
      exact st_val rfl (by simp only [execOp]; first | (go_simp; done) | (go_simp; rfl)) rfl
    case refine_18 =>
      refine owes_before (by decide) (by kernel_rfl) ?_
      intro W3 hd hM hb0
      have v16 : vals 16 = .pointer (some ⟨gs, 0, none⟩) := hd 16 (by kernel_rfl)
      rw [v16]
      exact st_val rfl (by simp only [execOp]; first | (go_simp; done) | (go_simp; rfl)) rfl
    case refine_19 =>
      refine owes_store ?_
      intro W3 hd hM hb0
      have v14 : vals 14 = r.v := hd 14 (by kernel_rfl)
      have v17 : vals 17 = .pointer (some ⟨gs, 0, none⟩) := hd 17 (by kernel_rfl)
      rw [v14, v17]
      refine st_store (T := 23) (vs := [.bool r.cursor, .bool r.keypad, .bool r.back, .bool r.focus, .bool r.paste, .bool r.lock, .bool r.line, .int .i64 r.mouse, .int .i64 r.coding, .int .i64 r.other]) hM rfl rfl rfl rfl (.there (.there (.there .here))) Tryz.sizeOf23 (by repeat constructor) rfl ?_
      intro W4 hM4 hb4 hoth hsz
      refine ⟨hM4, trivial, fun k hk hf => facts_turn (pure_cons (Pure.fIs _) (pure_cons (Pure.fIs _) (pure_cons (Pure.fIs _) (pure_cons (Pure.fIs _) (pure_cons (Pure.fIs _) (pure_cons (Pure.fIs _) (pure_cons (Pure.fIs _) (pure_cons (Pure.fIs _) (pure_cons (Pure.fIs _) (pure_cons (Pure.fIs _) (pure_cons (Pure.fIs _) (pure_cons (Pure.fIs _) (pure_cons (Pure.fIs _) (pure_cons (Pure.fIs _) (pure_cons (Pure.fIs _) (pure_cons (Pure.fIs _) (pure_cons (Pure.fIs _) (pure_cons (Pure.fIs _) pure_nil)))))))))))))))))) hk hf⟩
    case refine_20 =>
      intro W3 hd hM
      refine ⟨_, rfl, ?_⟩
      rw [HST.out]
      exact hM
  case done =>
    rintro D W2 bs2 rfl HM
    have HO : Mine w W2 (((gq, IsCells [.int .i64 k, .int .u8 p, .slice A l.length c, .string i, .int .u8 f, .string dt] 37) :: (gf, IsCells sc 34) :: (gp, IsCells [.pointer (some ⟨gs, 0, none⟩)] 71) :: (gs, IsCells (stM (setAll pr on m (nums l)) rest) 44) :: bs) ++ [(D, IsDef)]) := HM
    clear HM HO2
    gi_wp2
    refine leaves_mark (bs := ((gq, IsCells [.int .i64 k, .int .u8 p, .slice A l.length c, .string i, .int .u8 f, .string dt] 37) :: (gf, IsCells sc 34) :: (gp, IsCells [.pointer (some ⟨gs, 0, none⟩)] 71) :: (gs, IsCells (stM (setAll pr on m (nums l)) rest) 44) :: bs)) HO fun W3 HM3 => ?_
    refine ⟨_, results_tmp Tryz.results46 _ _ _, ?_⟩
    refine ⟨_, [], rfl, ?_, rfl⟩
    rw [List.append_nil]
    exact HM3.less (.cons _ (.cons _ (.cons _ (.refl _))))
  case stop =>
    rintro D cc pre W2 bs2 hpre h HM
    exact h.elim
end Go.Proofs.YtdmifbffamckbaaGreatDoor
end
section
namespace Go.Proofs.YtdmifbffamckbaaGreatDoor.G
open Go.RowKit Go.Proofs.YtdmifbffamckbaaGreatDoorW.PrintWords Go.Proofs.YtdmifbffamckbaaGreatDoorW.PrintLast Go.Proofs.YtdmifbffamckbaaGreatDoorW.PrintMore
attribute [local go_sem] max2_int min2_int max_two min_two max_three min_three max_four min_four
set_option linter.unusedVariables false
set_option linter.unusedSimpArgs false
def report_fact.f (a0 : Int) : Option (Int) := some (mn (mx a0 0) 65535)
set_option maxHeartbeats 8000000 in
set_option maxRecDepth 100000 in
theorem report_fact.calls (a0 : Int) (r : Int) (w : World) (h : report_fact.f a0 = some r) :
    Calls Tryz.prog 98 #[.int .i64 a0] w fun e w' => e = .returned (.int .i64 r) ∧ Below w.heap.size w w' := by
  have HB := Aside0.mk (Below.refl w.heap.size w)
  have H : (some (mn (mx a0 0) 65535)) = some r := h
  clear h
  obtain ⟨ji2, hji2⟩ : ∃ j_ : Int, (mx a0 0) = j_ := ⟨_, rfl⟩
  replace H : (some (mn (ji2) 65535)) = some r := by first | (rw [hji2] at H; exact H) | (simp only [hji2] at H ⊢; exact H)
  (try (have hji2l : 0 ≤ ji2 := by (rw [← hji2]; unfold mx; (repeat' split) <;> omega)))
  (try (have hji2m : 0 ≤ ji2 := by omega))
  have hji2_ : (if a0 < 0 then 0 else a0) = ji2 := hji2
  obtain ⟨ji3, hji3⟩ : ∃ j_ : Int, (mn (ji2) 65535) = j_ := ⟨_, rfl⟩
  replace H : (some ji3) = some r := by first | (rw [hji3] at H; exact H) | (simp only [hji3] at H ⊢; exact H)
  have hji3_ : (if 65535 < (ji2) then 65535 else (ji2)) = ji3 := hji3
  obtain rfl := Option.some.inj H
  go_enter Tryz.func98, Tryz.ntmps98
  go_wp2
  go_ret
  exact ⟨by first | rfl | (simp [errW_none, errW_some] <;> rfl) | (simp only [← hji2, ← hji3]; first | rfl | (simp [errW_none, errW_some] <;> rfl)) | (simp [*, errW_none, errW_some] <;> rfl), by repeat (first | (with_reducible first | exact HB.out | apply below_alloc | apply pw_below_drewN | apply below_drew1) | exact HB.out)⟩
def report_Place.f (k : Nat) (a0_0 : Int) (a0_1 : Int) (a0_2 : Int) (a0_3 : Int) (a0_4 : Int) (a0_5 : Int) (a0_6 : Int) (a0_7 : Int) (a0_8 : Int) (a0_9 : Bool) (a0_10 : Bool) (a0_11 : Bool) (a0_12 : Bool) (a0_13 : Bool) (a0_14 : Bool) (a0_15 : Bool) (a0_16 : Int) (a0_17 : Int) (a0_18 : Int) (a1 : Bool) : Option (Int × Int × (List (List Int)) × ByteArray × Int × ByteArray) := (report_fact.f a0_2).bind fun t124 => ((report_fact.f a0_3).bind fun t125 => (if a1 = true then ((wire_Num.f k 63 82 (([t124, t125, 1] : List Int))).bind fun bt129 => (some (bt129.1, bt129.2.1, bt129.2.2.1, bt129.2.2.2.1, bt129.2.2.2.2.1, bt129.2.2.2.2.2))) else ((wire_Num.f k 0 82 (([t124, t125] : List Int))).bind fun bt140 => (some (bt140.1, bt140.2.1, bt140.2.2.1, bt140.2.2.2.1, bt140.2.2.2.2.1, bt140.2.2.2.2.2)))))
theorem report_Place.mono : ∀ a0 a1 a2 a3 a4 a5 a6 a7 a8 a9 a10 a11 a12 a13 a14 a15 a16 a17 a18 a19 k, LeO (report_Place.f k a0 a1 a2 a3 a4 a5 a6 a7 a8 a9 a10 a11 a12 a13 a14 a15 a16 a17 a18 a19) (report_Place.f (k + 1) a0 a1 a2 a3 a4 a5 a6 a7 a8 a9 a10 a11 a12 a13 a14 a15 a16 a17 a18 a19) := by
  intro a0 a1 a2 a3 a4 a5 a6 a7 a8 a9 a10 a11 a12 a13 a14 a15 a16 a17 a18 a19 k
  unfold report_Place.f
  repeat' first
      | (with_reducible exact wire_Num.mono _ _ _ _)
      | (with_reducible exact LeO.refl _)
      | (with_reducible exact LeO.none _)
      | (with_reducible refine LeO.ite ?_ ?_)
      | (with_reducible refine LeO.bind ?_ (fun _ => ?_))
      | exact wire_Num.mono _ _ _ _
      | exact LeO.none _
      | refine LeO.ite ?_ ?_
      | refine LeO.bind ?_ (fun _ => ?_)
def report_Place.T1 : Bool × List (List Nat × List Nat) := (true, [([], []), ([0], [0]), ([1], [1]), ([], []), ([3], [3]), ([4, 2], [4]), ([2, 5, 0, 1, 2], [2]), ([5, 6, 0, 1, 2, 3, 4, 5, 6], [5])])
def report_Place.B1 : List Nat := [0, 1, 3, 0, 8, 31, 63, 127]
theorem report_Place.tab1 : rtab .any (opsOf Tryz.f89 1) = report_Place.T1 := by kernel_rfl
theorem report_Place.bits1 : waitsOk report_Place.T1.2 report_Place.B1 = true := by kernel_rfl
set_option maxHeartbeats 8000000 in
set_option maxRecDepth 100000 in
theorem report_Place.calls (k : Nat) (a0_0 : Int) (a0_1 : Int) (a0_2 : Int) (a0_3 : Int) (a0_4 : Int) (a0_5 : Int) (a0_6 : Int) (a0_7 : Int) (a0_8 : Int) (a0_9 : Bool) (a0_10 : Bool) (a0_11 : Bool) (a0_12 : Bool) (a0_13 : Bool) (a0_14 : Bool) (a0_15 : Bool) (a0_16 : Int) (a0_17 : Int) (a0_18 : Int) (a1 : Bool) (r1 : Int) (r2 : Int) (r3 : List (List Int)) (r4 : ByteArray) (r5 : Int) (r6 : ByteArray) (w : World) (h : report_Place.f k a0_0 a0_1 a0_2 a0_3 a0_4 a0_5 a0_6 a0_7 a0_8 a0_9 a0_10 a0_11 a0_12 a0_13 a0_14 a0_15 a0_16 a0_17 a0_18 a1 = some (r1, r2, r3, r4, r5, r6)) :
    Calls Tryz.prog 89 #[.agg #[.int .i64 a0_0, .int .i64 a0_1, .int .i64 a0_2, .int .i64 a0_3, .int .i64 a0_4, .int .i64 a0_5, .int .i64 a0_6, .int .i64 a0_7, .int .i64 a0_8, .bool a0_9, .bool a0_10, .bool a0_11, .bool a0_12, .bool a0_13, .bool a0_14, .bool a0_15, .int .i64 a0_16, .int .i64 a0_17, .int .i64 a0_18], .bool a1] w fun e w' => ∃ v2_ : Value, e = .returned (.agg #[.int .i64 r1, .int .u8 r2, v2_, .string r4, .int .u8 r5, .string r6]) ∧ Kd.S (Kd.slice 3 (Kd.int .i64)) 26 w' w.heap.size (fun _ => True) v2_ r3 ∧ Below w.heap.size w w' := by
  have hu34 := Tryz.underlying34
  have hu37 := Tryz.underlying37
  have HB := Aside0.mk (Below.refl w.heap.size w)
  have H : ((report_fact.f a0_2).bind fun t124 => ((report_fact.f a0_3).bind fun t125 => (if a1 = true then ((wire_Num.f k 63 82 (([t124, t125, 1] : List Int))).bind fun bt129 => (some (bt129.1, bt129.2.1, bt129.2.2.1, bt129.2.2.2.1, bt129.2.2.2.2.1, bt129.2.2.2.2.2))) else ((wire_Num.f k 0 82 (([t124, t125] : List Int))).bind fun bt140 => (some (bt140.1, bt140.2.1, bt140.2.2.1, bt140.2.2.2.1, bt140.2.2.2.2.1, bt140.2.2.2.2.2)))))) = some (r1, r2, r3, r4, r5, r6) := h
  clear h
  replace H := Option.bind_eq_some_iff.mp H
  obtain ⟨t124, A30, H⟩ := H
  replace H : ((report_fact.f a0_3).bind fun t125 => (if a1 = true then ((wire_Num.f k 63 82 (([t124, t125, 1] : List Int))).bind fun bt129 => (some (bt129.1, bt129.2.1, bt129.2.2.1, bt129.2.2.2.1, bt129.2.2.2.2.1, bt129.2.2.2.2.2))) else ((wire_Num.f k 0 82 (([t124, t125] : List Int))).bind fun bt140 => (some (bt140.1, bt140.2.1, bt140.2.2.1, bt140.2.2.2.1, bt140.2.2.2.2.1, bt140.2.2.2.2.2))))) = some (r1, r2, r3, r4, r5, r6) := H
  have A3 := Aside0.mk A30
  clear A30
  replace H := Option.bind_eq_some_iff.mp H
  obtain ⟨t125, A40, H⟩ := H
  replace H : (if a1 = true then ((wire_Num.f k 63 82 (([t124, t125, 1] : List Int))).bind fun bt129 => (some (bt129.1, bt129.2.1, bt129.2.2.1, bt129.2.2.2.1, bt129.2.2.2.2.1, bt129.2.2.2.2.2))) else ((wire_Num.f k 0 82 (([t124, t125] : List Int))).bind fun bt140 => (some (bt140.1, bt140.2.1, bt140.2.2.1, bt140.2.2.2.1, bt140.2.2.2.2.1, bt140.2.2.2.2.2)))) = some (r1, r2, r3, r4, r5, r6) := H
  have A4 := Aside0.mk A40
  clear A40
  by_cases c5 : a1 = true
  · subst c5
    have H1 : ((wire_Num.f k 63 82 (([t124, t125, 1] : List Int))).bind fun bt129 => (some (bt129.1, bt129.2.1, bt129.2.2.1, bt129.2.2.2.1, bt129.2.2.2.2.1, bt129.2.2.2.2.2))) = some (r1, r2, r3, r4, r5, r6) := by rw [if_pos rfl] at H; exact H
    clear H
    have H := H1
    clear H1
    obtain ⟨y126, hy126⟩ : ∃ y_ : List Int, y_ = (([t124, t125, 1] : List Int)) := ⟨_, rfl⟩
    replace H : ((wire_Num.f k 63 82 y126).bind fun bt129 => (some (bt129.1, bt129.2.1, bt129.2.2.1, bt129.2.2.2.1, bt129.2.2.2.2.1, bt129.2.2.2.2.2))) = some (r1, r2, r3, r4, r5, r6) := by first | (rw [hy126]; with_reducible exact H) | (have H2_ := (Option.bind_some _ _).symm.trans H; rw [hy126]; with_reducible exact H2_) | (have H2_ := (Option.bind_some _ _).symm.trans H; with_reducible exact H2_) | with_reducible exact H | (rw [hy126]; exact H) | exact H
    have Ny126 := Aside0.mk hy126
    clear hy126
    replace H := Option.bind_eq_some_iff.mp H
    obtain ⟨⟨t129, t130, t131, t134, t135, t136⟩, A60, H⟩ := H
    replace H : (some (t129, t130, t131, t134, t135, t136)) = some (r1, r2, r3, r4, r5, r6) := H
    have A6 := Aside0.mk A60
    clear A60
    simp only [Option.some.injEq, Prod.mk.injEq] at H
    obtain ⟨rfl, rfl, rfl, rfl, rfl, rfl⟩ := H
    go_enter Tryz.func89, Tryz.ntmps89
    try go_wp2_with (first | ((with_reducible refine gate_dst (N := 2) rfl ?_); refine box_event ?hg (N := 2) ?hd (cs := #[.int .i64 a0_0, .int .i64 a0_1, .int .i64 a0_2, .int .i64 a0_3, .int .i64 a0_4, .int .i64 a0_5, .int .i64 a0_6, .int .i64 a0_7, .int .i64 a0_8, .bool a0_9, .bool a0_10, .bool a0_11, .bool a0_12, .bool a0_13, .bool a0_14, .bool a0_15, .int .i64 a0_16, .int .i64 a0_17, .int .i64 a0_18]) (t := 34) ?hr ?_; (case hd => rfl); (case hg => rfl); (case hr => first | (go_simp; done) | (go_simp; rfl)); intro gb122 hg w7 hbox hb; have n0_ := Aside0.mk (below_step (by repeat (first | (with_reducible first | exact HB.out | apply below_alloc | apply pw_below_drewN | apply below_drew1) | exact HB.out)) hb); have n1_ := Aside0.mk (hbox); have n2_ := Aside0.mk ((by rw [hg]; exact (below_size (by repeat (first | (with_reducible first | exact HB.out | apply below_alloc | apply pw_below_drewN | apply below_drew1) | exact HB.out))) : w.heap.size ≤ gb122)); have n3_ := Aside0.mk ((by rw [hg]; exact (below_size (by repeat (first | (with_reducible first | exact HB.out | apply below_alloc | apply pw_below_drewN | apply below_drew1) | exact HB.out))) : w.heap.size ≤ gb122)); clear HB; have HB := n0_; have BK122 := n1_; have GW122 := n2_; have GE122 := n3_; clear n0_ n1_ n2_ n3_; clear hb hbox hg) | ((with_reducible refine gate_dst (N := 4) rfl ?_); refine box_event ?hg (N := 4) ?hd (cs := #[.int .i64 0, .int .u8 0, .slice none 0 0, .string (⟨#[]⟩ : ByteArray), .int .u8 0, .string (⟨#[]⟩ : ByteArray)]) (t := 37) ?hr ?_; (case hd => rfl); (case hg => rfl); (case hr => first | (go_simp; done) | (go_simp; rfl)); intro gb123 hg w8 hbox hb; have n0_ := Aside0.mk (blk_below (g := gb122) (o := .cells #[.int .i64 a0_0, .int .i64 a0_1, .int .i64 a0_2, .int .i64 a0_3, .int .i64 a0_4, .int .i64 a0_5, .int .i64 a0_6, .int .i64 a0_7, .int .i64 a0_8, .bool a0_9, .bool a0_10, .bool a0_11, .bool a0_12, .bool a0_13, .bool a0_14, .bool a0_15, .int .i64 a0_16, .int .i64 a0_17, .int .i64 a0_18] 34 (0, 0)) (by (with_reducible repeat (first | refine blk_drewN ?_ _ | refine blk_drew ?_ | refine blk_alloc ?_ _)); exact BK122.out) hb); have n1_ := Aside0.mk (below_step (by repeat (first | (with_reducible first | exact HB.out | apply below_alloc | apply pw_below_drewN | apply below_drew1 | refine below_set ?_ GE122.out) | exact HB.out)) hb); have n2_ := Aside0.mk (hbox); have n3_ := Aside0.mk ((by rw [hg]; exact (below_size (by repeat (first | (with_reducible first | exact HB.out | apply below_alloc | apply pw_below_drewN | apply below_drew1 | refine below_set ?_ GE122.out) | exact HB.out))) : w.heap.size ≤ gb123)); have n4_ := Aside0.mk ((by rw [hg]; exact (below_size (by repeat (first | (with_reducible first | exact HB.out | apply below_alloc | apply pw_below_drewN | apply below_drew1 | refine below_set ?_ GE122.out) | exact HB.out))) : w.heap.size ≤ gb123)); have n5_ := Aside0.mk ((by rw [hg]; exact Nat.ne_of_lt (blk_lt (g := gb122) (o := .cells #[.int .i64 a0_0, .int .i64 a0_1, .int .i64 a0_2, .int .i64 a0_3, .int .i64 a0_4, .int .i64 a0_5, .int .i64 a0_6, .int .i64 a0_7, .int .i64 a0_8, .bool a0_9, .bool a0_10, .bool a0_11, .bool a0_12, .bool a0_13, .bool a0_14, .bool a0_15, .int .i64 a0_16, .int .i64 a0_17, .int .i64 a0_18] 34 (0, 0)) (by (with_reducible repeat (first | refine blk_drewN ?_ _ | refine blk_drew ?_ | refine blk_alloc ?_ _)); exact BK122.out)) : gb122 ≠ gb123)); have n6_ := Aside0.mk ((by rw [hg]; exact Nat.ne_of_gt (blk_lt (g := gb122) (o := .cells #[.int .i64 a0_0, .int .i64 a0_1, .int .i64 a0_2, .int .i64 a0_3, .int .i64 a0_4, .int .i64 a0_5, .int .i64 a0_6, .int .i64 a0_7, .int .i64 a0_8, .bool a0_9, .bool a0_10, .bool a0_11, .bool a0_12, .bool a0_13, .bool a0_14, .bool a0_15, .int .i64 a0_16, .int .i64 a0_17, .int .i64 a0_18] 34 (0, 0)) (by (with_reducible repeat (first | refine blk_drewN ?_ _ | refine blk_drew ?_ | refine blk_alloc ?_ _)); exact BK122.out)) : gb123 ≠ gb122)); clear BK122; clear HB; have BK122 := n0_; have HB := n1_; have BK123 := n2_; have GW123 := n3_; have GE123 := n4_; have NB122_123 := n5_; have NB123_122 := n6_; clear n0_ n1_ n2_ n3_ n4_ n5_ n6_; clear hb hbox hg))
    have n0_ := Aside0.mk (blk_drew BK122.out)
    have n1_ := Aside0.mk (blk_drew BK123.out)
    have n2_ := Aside0.mk (below_drew1 HB.out)
    clear BK122
    clear BK123
    clear HB
    have BK122 := n0_
    have BK123 := n1_
    have HB := n2_
    clear n0_ n1_ n2_
    refine start_ (n := 8) (S := fun w' => w'.cell? ⟨gb122, 0, none⟩ = some (.int .i64 a0_0) ∧ w'.cell? ⟨gb122, 1, none⟩ = some (.int .i64 a0_1) ∧ w'.cell? ⟨gb122, 2, none⟩ = some (.int .i64 a0_2) ∧ w'.cell? ⟨gb122, 3, none⟩ = some (.int .i64 a0_3) ∧ w'.cell? ⟨gb122, 4, none⟩ = some (.int .i64 a0_4) ∧ w'.cell? ⟨gb122, 5, none⟩ = some (.int .i64 a0_5) ∧ w'.cell? ⟨gb122, 6, none⟩ = some (.int .i64 a0_6) ∧ w'.cell? ⟨gb122, 7, none⟩ = some (.int .i64 a0_7) ∧ w'.cell? ⟨gb122, 8, none⟩ = some (.int .i64 a0_8) ∧ w'.cell? ⟨gb122, 9, none⟩ = some (.bool a0_9) ∧ w'.cell? ⟨gb122, 10, none⟩ = some (.bool a0_10) ∧ w'.cell? ⟨gb122, 11, none⟩ = some (.bool a0_11) ∧ w'.cell? ⟨gb122, 12, none⟩ = some (.bool a0_12) ∧ w'.cell? ⟨gb122, 13, none⟩ = some (.bool a0_13) ∧ w'.cell? ⟨gb122, 14, none⟩ = some (.bool a0_14) ∧ w'.cell? ⟨gb122, 15, none⟩ = some (.bool a0_15) ∧ w'.cell? ⟨gb122, 16, none⟩ = some (.int .i64 a0_16) ∧ w'.cell? ⟨gb122, 17, none⟩ = some (.int .i64 a0_17) ∧ w'.cell? ⟨gb122, 18, none⟩ = some (.int .i64 a0_18)) (ds := []) #[false, false, false, false, false, false, false, false] (by kernel_rfl) rfl rfl ⟨(blk_cell BK122.out 0).trans rfl, (blk_cell BK122.out 1).trans rfl, (blk_cell BK122.out 2).trans rfl, (blk_cell BK122.out 3).trans rfl, (blk_cell BK122.out 4).trans rfl, (blk_cell BK122.out 5).trans rfl, (blk_cell BK122.out 6).trans rfl, (blk_cell BK122.out 7).trans rfl, (blk_cell BK122.out 8).trans rfl, (blk_cell BK122.out 9).trans rfl, (blk_cell BK122.out 10).trans rfl, (blk_cell BK122.out 11).trans rfl, (blk_cell BK122.out 12).trans rfl, (blk_cell BK122.out 13).trans rfl, (blk_cell BK122.out 14).trans rfl, (blk_cell BK122.out 15).trans rfl, (blk_cell BK122.out 16).trans rfl, (blk_cell BK122.out 17).trans rfl, (blk_cell BK122.out 18).trans rfl⟩ (fun hHeld => ?_); refine with_tabW report_Place.tab1 report_Place.bits1 (fun HT_ HW_ => ?_)
    generalize w8.drew = w9 at BK122 BK123 HB hHeld ⊢
    refine pure_ (i := 0) (N := some 7) (v := ?_) (a' := ?_) #[true, false, false, false, false, false, false, false] rfl rfl (any_of HT_.out (by kernel_rfl)) (fun _ _ _ h => h) (Or.inl ⟨by rfl, ?_⟩) ?_ ?_
    rotate_left
    · intro w'
      go_simp
      with_reducible rfl
    rotate_left
    · simp only [Act.put, List.setIfInBounds_toArray, List.set_cons_zero, List.set_cons_succ, i64_w, i32_w]
      rfl
    refine pure_ (i := 3) (N := some 10) (v := ?_) (a' := ?_) #[true, false, false, true, false, false, false, false] rfl rfl (any_of HT_.out (by kernel_rfl)) (fun _ _ _ h => h) (Or.inl ⟨by rfl, ?_⟩) ?_ ?_
    rotate_left
    · intro w'
      go_simp
      with_reducible rfl
    rotate_left
    · simp only [Act.put, List.setIfInBounds_toArray, List.set_cons_zero, List.set_cons_succ, i64_w, i32_w]
      rfl
    refine take_ (i := 1) (N := some 8) (v := ?_) (a' := ?_) #[true, true, false, true, false, false, false, false] rfl rfl (take_ofW HT_.out HW_.out (by kernel_rfl)) (fun _ _ _ h => h) (Or.inl ⟨by rfl, ?_⟩) hHeld ?_ ?_
    rotate_left
    · rintro w' ⟨s0, s1, s2, s3, s4, s5, s6, s7, s8, s9, s10, s11, s12, s13, s14, s15, s16, s17, s18⟩
      go_simp
      with_reducible rfl
    rotate_left
    · simp only [Act.put, List.setIfInBounds_toArray, List.set_cons_zero, List.set_cons_succ, i64_w, i32_w]
      rfl
    refine take_ (i := 4) (N := some 11) (v := ?_) (a' := ?_) #[true, true, false, true, true, false, false, false] rfl rfl (take_ofW HT_.out HW_.out (by kernel_rfl)) (fun _ _ _ h => h) (Or.inl ⟨by rfl, ?_⟩) hHeld ?_ ?_
    rotate_left
    · rintro w' ⟨s0, s1, s2, s3, s4, s5, s6, s7, s8, s9, s10, s11, s12, s13, s14, s15, s16, s17, s18⟩
      go_simp
      with_reducible rfl
    rotate_left
    · simp only [Act.put, List.setIfInBounds_toArray, List.set_cons_zero, List.set_cons_succ, i64_w, i32_w]
      rfl
    refine one_ (i := 2) (N := some 9) #[true, true, true, true, true, false, false, false] rfl rfl (one_of HT_.out (by kernel_rfl)) (by decide) (fun K hK => ?_)
    refine goes_ Tryz.func98 (by kernel_rfl) rfl #[.int .i64 a0_2] (by rfl) rfl rfl (by (try simp only [List.map_toArray, List.map_cons, List.map_nil]); first | done | rfl | (simp only [List.length_drop, List.length_take]; rfl)) ?_
    with_reducible refine (report_fact.calls a0_2 t124 _ A3.out).mono ?_
    rintro e w10 ⟨rfl, hb⟩
    refine ⟨_, rfl, ?_⟩
    have n0_ := Aside0.mk (blk_below (g := gb122) (o := .cells #[.int .i64 a0_0, .int .i64 a0_1, .int .i64 a0_2, .int .i64 a0_3, .int .i64 a0_4, .int .i64 a0_5, .int .i64 a0_6, .int .i64 a0_7, .int .i64 a0_8, .bool a0_9, .bool a0_10, .bool a0_11, .bool a0_12, .bool a0_13, .bool a0_14, .bool a0_15, .int .i64 a0_16, .int .i64 a0_17, .int .i64 a0_18] 34 (0, 0)) (by (with_reducible repeat (first | refine blk_drewN ?_ _ | refine blk_drew ?_ | refine blk_alloc ?_ _)); exact BK122.out) hb)
    have n1_ := Aside0.mk (blk_below (g := gb123) (o := .cells #[.int .i64 0, .int .u8 0, .slice none 0 0, .string (⟨#[]⟩ : ByteArray), .int .u8 0, .string (⟨#[]⟩ : ByteArray)] 37 (0, 0)) (by (with_reducible repeat (first | refine blk_drewN ?_ _ | refine blk_drew ?_ | refine blk_alloc ?_ _)); exact BK123.out) hb)
    have n2_ := Aside0.mk (below_step (by repeat (first | (with_reducible first | exact HB.out | apply below_alloc | apply pw_below_drewN | apply below_drew1 | refine below_set ?_ GE122.out | refine below_set ?_ GE123.out) | exact HB.out)) hb)
    clear BK122
    clear BK123
    clear HB
    have BK122 := n0_
    have BK123 := n1_
    have HB := n2_
    clear n0_ n1_ n2_
    (try clear hb)
    (try clear hb2)
    (try clear hk)
    (try clear hi)
    refine hK.out _ _ ⟨(blk_cell BK122.out 0).trans rfl, (blk_cell BK122.out 1).trans rfl, (blk_cell BK122.out 2).trans rfl, (blk_cell BK122.out 3).trans rfl, (blk_cell BK122.out 4).trans rfl, (blk_cell BK122.out 5).trans rfl, (blk_cell BK122.out 6).trans rfl, (blk_cell BK122.out 7).trans rfl, (blk_cell BK122.out 8).trans rfl, (blk_cell BK122.out 9).trans rfl, (blk_cell BK122.out 10).trans rfl, (blk_cell BK122.out 11).trans rfl, (blk_cell BK122.out 12).trans rfl, (blk_cell BK122.out 13).trans rfl, (blk_cell BK122.out 14).trans rfl, (blk_cell BK122.out 15).trans rfl, (blk_cell BK122.out 16).trans rfl, (blk_cell BK122.out 17).trans rfl, (blk_cell BK122.out 18).trans rfl⟩ (fun hHeld => ?_)
    clear hK K
    refine norm_ (a' := ?_) ?_ ?_
    rotate_left
    · show Act.put _ (some 9) _ = _
      simp only [Act.put, List.setIfInBounds_toArray, List.set_cons_zero, List.set_cons_succ, i64_w, i32_w]
      rfl
    refine one_ (i := 5) (N := some 12) #[true, true, true, true, true, true, false, false] rfl rfl (one_of HT_.out (by kernel_rfl)) (by decide) (fun K hK => ?_)
    refine goes_ Tryz.func98 (by kernel_rfl) rfl #[.int .i64 a0_3] (by rfl) rfl rfl (by (try simp only [List.map_toArray, List.map_cons, List.map_nil]); first | done | rfl | (simp only [List.length_drop, List.length_take]; rfl)) ?_
    with_reducible refine (report_fact.calls a0_3 t125 _ A4.out).mono ?_
    rintro e w11 ⟨rfl, hb⟩
    refine ⟨_, rfl, ?_⟩
    have n0_ := Aside0.mk (blk_below (g := gb122) (o := .cells #[.int .i64 a0_0, .int .i64 a0_1, .int .i64 a0_2, .int .i64 a0_3, .int .i64 a0_4, .int .i64 a0_5, .int .i64 a0_6, .int .i64 a0_7, .int .i64 a0_8, .bool a0_9, .bool a0_10, .bool a0_11, .bool a0_12, .bool a0_13, .bool a0_14, .bool a0_15, .int .i64 a0_16, .int .i64 a0_17, .int .i64 a0_18] 34 (0, 0)) (by (with_reducible repeat (first | refine blk_drewN ?_ _ | refine blk_drew ?_ | refine blk_alloc ?_ _)); exact BK122.out) hb)
    have n1_ := Aside0.mk (blk_below (g := gb123) (o := .cells #[.int .i64 0, .int .u8 0, .slice none 0 0, .string (⟨#[]⟩ : ByteArray), .int .u8 0, .string (⟨#[]⟩ : ByteArray)] 37 (0, 0)) (by (with_reducible repeat (first | refine blk_drewN ?_ _ | refine blk_drew ?_ | refine blk_alloc ?_ _)); exact BK123.out) hb)
    have n2_ := Aside0.mk (below_step (by repeat (first | (with_reducible first | exact HB.out | apply below_alloc | apply pw_below_drewN | apply below_drew1 | refine below_set ?_ GE122.out | refine below_set ?_ GE123.out) | exact HB.out)) hb)
    clear BK122
    clear BK123
    clear HB
    have BK122 := n0_
    have BK123 := n1_
    have HB := n2_
    clear n0_ n1_ n2_
    (try clear hb)
    (try clear hb2)
    (try clear hk)
    (try clear hi)
    refine hK.out _ _ ⟨(blk_cell BK122.out 0).trans rfl, (blk_cell BK122.out 1).trans rfl, (blk_cell BK122.out 2).trans rfl, (blk_cell BK122.out 3).trans rfl, (blk_cell BK122.out 4).trans rfl, (blk_cell BK122.out 5).trans rfl, (blk_cell BK122.out 6).trans rfl, (blk_cell BK122.out 7).trans rfl, (blk_cell BK122.out 8).trans rfl, (blk_cell BK122.out 9).trans rfl, (blk_cell BK122.out 10).trans rfl, (blk_cell BK122.out 11).trans rfl, (blk_cell BK122.out 12).trans rfl, (blk_cell BK122.out 13).trans rfl, (blk_cell BK122.out 14).trans rfl, (blk_cell BK122.out 15).trans rfl, (blk_cell BK122.out 16).trans rfl, (blk_cell BK122.out 17).trans rfl, (blk_cell BK122.out 18).trans rfl⟩ (fun hHeld => ?_)
    clear hK K
    refine norm_ (a' := ?_) ?_ ?_
    rotate_left
    · show Act.put _ (some 12) _ = _
      simp only [Act.put, List.setIfInBounds_toArray, List.set_cons_zero, List.set_cons_succ, i64_w, i32_w]
      rfl
    refine pure_ (i := 6) (N := some 5) (v := ?_) (a' := ?_) #[true, true, true, true, true, true, true, false] rfl rfl (any_of HT_.out (by kernel_rfl)) (fun _ _ _ h => h) (Or.inl ⟨by rfl, ?_⟩) ?_ ?_
    rotate_left
    · intro w'
      go_simp
      with_reducible rfl
    rotate_left
    · simp only [Act.put, List.setIfInBounds_toArray, List.set_cons_zero, List.set_cons_succ, i64_w, i32_w]
      rfl
    refine pure_ (i := 7) (N := some 6) (v := ?_) (a' := ?_) #[true, true, true, true, true, true, true, true] rfl rfl (any_of HT_.out (by kernel_rfl)) (fun _ _ _ h => h) (Or.inl ⟨by rfl, ?_⟩) ?_ ?_
    rotate_left
    · intro w'
      go_simp
      with_reducible rfl
    rotate_left
    · simp only [Act.put, List.setIfInBounds_toArray, List.set_cons_zero, List.set_cons_succ, i64_w, i32_w]
      rfl
    refine done_ (done_of HT_.out (by kernel_rfl)) ?_
    try go_wp2_with (first | ((with_reducible refine gate_dst (N := 16) rfl ?_); refine Kd.R_lit (Kd.int .i64) _ 3 ?hg (N := 16) ?hd (xs := ([t124, t125, 1] : List Int)) (inner := [.int .i64 t124, .int .i64 t125, .int .i64 1]) (ok := fun _ => True) (okp := fun _ => True) ?hr ?hp (fun _ hk => hk) trivial (Below.refl _ _) (Nat.le_refl _) (by simp) ?_; (case hd => rfl); (case hg => rfl); (case hr => first | (go_simp; done) | (go_simp; rfl)); (case hp => exact (Reps.one (show Kd.M (Kd.int .i64) _ _ _ t124 [.int .i64 t124] from rfl) (Reps.one (show Kd.M (Kd.int .i64) _ _ _ t125 [.int .i64 t125] from rfl) (Reps.one (show Kd.M (Kd.int .i64) _ _ _ 1 [.int .i64 1] from rfl) (Reps.none _ _))))); intro v127 w12 ho13 hb hg_ hnew_; clear hg_ hnew_; (first | rw [← Ny126.out] at ho13 | (simp only [Int.reduceToNat] at ho13; rw [← Ny126.out] at ho13)); have n0_ := Aside0.mk (Kd.R_lower ho13 (below_size (by repeat (first | (with_reducible first | exact HB.out | apply below_alloc | apply pw_below_drewN | apply below_drew1 | refine below_set ?_ GE122.out | refine below_set ?_ GE123.out) | exact HB.out)))); have n1_ := Aside0.mk (blk_below (g := gb122) (o := .cells #[.int .i64 a0_0, .int .i64 a0_1, .int .i64 a0_2, .int .i64 a0_3, .int .i64 a0_4, .int .i64 a0_5, .int .i64 a0_6, .int .i64 a0_7, .int .i64 a0_8, .bool a0_9, .bool a0_10, .bool a0_11, .bool a0_12, .bool a0_13, .bool a0_14, .bool a0_15, .int .i64 a0_16, .int .i64 a0_17, .int .i64 a0_18] 34 (0, 0)) (by (with_reducible repeat (first | refine blk_drewN ?_ _ | refine blk_drew ?_ | refine blk_alloc ?_ _)); exact BK122.out) hb); have n2_ := Aside0.mk (blk_below (g := gb123) (o := .cells #[.int .i64 0, .int .u8 0, .slice none 0 0, .string (⟨#[]⟩ : ByteArray), .int .u8 0, .string (⟨#[]⟩ : ByteArray)] 37 (0, 0)) (by (with_reducible repeat (first | refine blk_drewN ?_ _ | refine blk_drew ?_ | refine blk_alloc ?_ _)); exact BK123.out) hb); have n3_ := Aside0.mk (below_step (by repeat (first | (with_reducible first | exact HB.out | apply below_alloc | apply pw_below_drewN | apply below_drew1 | refine below_set ?_ GE122.out | refine below_set ?_ GE123.out) | exact HB.out)) hb); clear BK122; clear BK123; clear HB; have HO128 := n0_; have BK122 := n1_; have BK123 := n2_; have HB := n3_; clear n0_ n1_ n2_ n3_; clear hb ho13; obtain ⟨Ao14, co14, eo14⟩ := Kd.R_slice HO128.out; subst eo14) | ((with_reducible refine gate_callee (f := 127) rfl ?_); refine goesL_ (some 17) rfl rfl Tryz.func127 (by kernel_rfl) rfl #[.int .u8 63, .int .u8 82, .slice Ao14 y126.length co14] rfl (by (try simp only [List.map_toArray, List.map_cons, List.map_nil]); first | done | rfl | (simp only [List.length_drop, List.length_take]; rfl)) ?_; (with_reducible refine (wire_Num.calls k 63 82 _ _ y126 t129 t130 t131 t134 t135 t136 _ ?side1 ?side2 A6.out).mono ?_); (case side1 => repeat (first | exact (Kd.R_reads' HO128.out).2.2 | (with_reducible refine Kd.C_alloc ?_ _) | (with_reducible refine Kd.C_drewN ?_ _) | (with_reducible refine Kd.C_drew ?_))); (case side2 => exact (Kd.R_reads' HO128.out).2.1); rintro e w15 ⟨v132, rfl, ho0, hb⟩; refine ⟨_, rfl, ?_⟩; have n0_ := Aside0.mk (Kd.R_below (by (with_reducible repeat (first | apply Kd.R_alloc | apply Kd.R_drewN | apply Kd.R_drew)); exact HO128.out) hb); have n1_ := Aside0.mk (Kd.S_lower (Kd.S_new' ho0 (Kd.R_lt (by (with_reducible repeat (first | apply Kd.R_alloc | apply Kd.R_drewN | apply Kd.R_drew)); exact HO128.out))) (below_size (by repeat (first | (with_reducible first | exact HB.out | apply below_alloc | apply pw_below_drewN | apply below_drew1 | refine below_set ?_ GE122.out | refine below_set ?_ GE123.out) | exact HB.out)))); have n2_ := Aside0.mk (blk_below (g := gb122) (o := .cells #[.int .i64 a0_0, .int .i64 a0_1, .int .i64 a0_2, .int .i64 a0_3, .int .i64 a0_4, .int .i64 a0_5, .int .i64 a0_6, .int .i64 a0_7, .int .i64 a0_8, .bool a0_9, .bool a0_10, .bool a0_11, .bool a0_12, .bool a0_13, .bool a0_14, .bool a0_15, .int .i64 a0_16, .int .i64 a0_17, .int .i64 a0_18] 34 (0, 0)) (by (with_reducible repeat (first | refine blk_drewN ?_ _ | refine blk_drew ?_ | refine blk_alloc ?_ _)); exact BK122.out) hb); have n3_ := Aside0.mk (blk_below (g := gb123) (o := .cells #[.int .i64 0, .int .u8 0, .slice none 0 0, .string (⟨#[]⟩ : ByteArray), .int .u8 0, .string (⟨#[]⟩ : ByteArray)] 37 (0, 0)) (by (with_reducible repeat (first | refine blk_drewN ?_ _ | refine blk_drew ?_ | refine blk_alloc ?_ _)); exact BK123.out) hb); have n4_ := Aside0.mk (below_step (by repeat (first | (with_reducible first | exact HB.out | apply below_alloc | apply pw_below_drewN | apply below_drew1 | refine below_set ?_ GE122.out | refine below_set ?_ GE123.out) | exact HB.out)) hb); clear HO128; clear BK122; clear BK123; clear HB; have HO128 := n0_; have HO133 := n1_; have BK122 := n2_; have BK123 := n3_; have HB := n4_; clear n0_ n1_ n2_ n3_ n4_; (try clear hb); (try clear hb2); (try clear hk); (try clear hi); (try clear ho0); have hnb16 := NB123_122.out; have hnc16 := NB122_123.out; have hcz17_0 : w15.cell? ⟨gb123, 0, none⟩ = some (.int .i64 0) := (blk_cell BK123.out 0).trans rfl; have hcz17_1 : w15.cell? ⟨gb123, 1, none⟩ = some (.int .u8 0) := (blk_cell BK123.out 1).trans rfl; have hcz17_2 : w15.cell? ⟨gb123, 2, none⟩ = some (.slice none 0 0) := (blk_cell BK123.out 2).trans rfl; have hcz17_3 : w15.cell? ⟨gb123, 3, none⟩ = some (.string (⟨#[]⟩ : ByteArray)) := (blk_cell BK123.out 3).trans rfl; have hcz17_4 : w15.cell? ⟨gb123, 4, none⟩ = some (.int .u8 0) := (blk_cell BK123.out 4).trans rfl; have hcz17_5 : w15.cell? ⟨gb123, 5, none⟩ = some (.string (⟨#[]⟩ : ByteArray)) := (blk_cell BK123.out 5).trans rfl; have hfz17_0 := blk_frozen BK123.out 0; have hfz17_1 := blk_frozen BK123.out 1; have hfz17_2 := blk_frozen BK123.out 2; have hfz17_3 := blk_frozen BK123.out 3; have hfz17_4 := blk_frozen BK123.out 4; have hfz17_5 := blk_frozen BK123.out 5; obtain ⟨Ao18, co18, eo18⟩ := Kd.S_slice HO133.out; subst eo18))
    refine bodyPost_ret (results_cell_row rfl _ _ gb123 37 #[.int .i64 t129, .int .u8 t130, .slice Ao18 t131.length co18, .string t134, .int .u8 t135, .string t136] (0, 0) _ rfl (by (with_reducible repeat (first | refine blk_drewN ?_ _ | refine blk_drew ?_ | refine blk_alloc ?_ _)); refine blk_put (cs := #[.int .i64 t129, .int .u8 t130, .slice Ao18 t131.length co18, .string t134, .int .u8 t135, .string (⟨#[]⟩ : ByteArray)]) ?_ 5 _ rfl; (with_reducible repeat (first | refine blk_drewN ?_ _ | refine blk_drew ?_ | refine blk_alloc ?_ _)); refine blk_put (cs := #[.int .i64 t129, .int .u8 t130, .slice Ao18 t131.length co18, .string t134, .int .u8 0, .string (⟨#[]⟩ : ByteArray)]) ?_ 4 _ rfl; (with_reducible repeat (first | refine blk_drewN ?_ _ | refine blk_drew ?_ | refine blk_alloc ?_ _)); refine blk_put (cs := #[.int .i64 t129, .int .u8 t130, .slice Ao18 t131.length co18, .string (⟨#[]⟩ : ByteArray), .int .u8 0, .string (⟨#[]⟩ : ByteArray)]) ?_ 3 _ rfl; (with_reducible repeat (first | refine blk_drewN ?_ _ | refine blk_drew ?_ | refine blk_alloc ?_ _)); refine blk_put (cs := #[.int .i64 t129, .int .u8 t130, .slice none 0 0, .string (⟨#[]⟩ : ByteArray), .int .u8 0, .string (⟨#[]⟩ : ByteArray)]) ?_ 2 _ rfl; (with_reducible repeat (first | refine blk_drewN ?_ _ | refine blk_drew ?_ | refine blk_alloc ?_ _)); refine blk_put (cs := #[.int .i64 t129, .int .u8 0, .slice none 0 0, .string (⟨#[]⟩ : ByteArray), .int .u8 0, .string (⟨#[]⟩ : ByteArray)]) ?_ 1 _ rfl; (with_reducible repeat (first | refine blk_drewN ?_ _ | refine blk_drew ?_ | refine blk_alloc ?_ _)); refine blk_put (cs := #[.int .i64 0, .int .u8 0, .slice none 0 0, .string (⟨#[]⟩ : ByteArray), .int .u8 0, .string (⟨#[]⟩ : ByteArray)]) ?_ 0 _ rfl; (with_reducible repeat (first | refine blk_drewN ?_ _ | refine blk_drew ?_ | refine blk_alloc ?_ _)); exact BK123.out) Tryz.underlying37 rfl (by kernel_rfl)) rfl ?_
    exact ⟨_, by first | rfl | (simp [errW_none, errW_some] <;> rfl) | (simp [*, errW_none, errW_some] <;> rfl), by (with_reducible repeat (first | apply Kd.S_alloc | apply Kd.S_drewN | apply Kd.S_drew)); exact Kd.S_mono (Kd.S_far (p := ⟨gb123, 5, none⟩) (Kd.S_far (p := ⟨gb123, 4, none⟩) (Kd.S_far (p := ⟨gb123, 3, none⟩) (Kd.S_far (p := ⟨gb123, 2, none⟩) (Kd.S_far (p := ⟨gb123, 1, none⟩) (Kd.S_far (p := ⟨gb123, 0, none⟩) (Kd.S_types HO133.out BK123.out (by decide)) (fun _ hk => hk.2) (.int .i64 t129)) (fun _ hk => hk.2) (.int .u8 t130)) (fun _ hk => hk.2) (.slice Ao18 t131.length co18)) (fun _ hk => hk.2) (.string t134)) (fun _ hk => hk.2) (.int .u8 t135)) (fun _ hk => hk.2) (.string t136)) (fun _ hk => trivial), by repeat (first | (with_reducible first | exact HB.out | apply below_alloc | apply pw_below_drewN | apply below_drew1 | refine below_set ?_ GE122.out | refine below_set ?_ GE123.out) | exact HB.out)⟩
  · replace c5 := Bool.eq_false_iff.mpr c5
    subst c5
    have H1 : ((wire_Num.f k 0 82 (([t124, t125] : List Int))).bind fun bt140 => (some (bt140.1, bt140.2.1, bt140.2.2.1, bt140.2.2.2.1, bt140.2.2.2.2.1, bt140.2.2.2.2.2))) = some (r1, r2, r3, r4, r5, r6) := by rw [if_neg (show ¬ (false = true) by decide)] at H; exact H
    clear H
    have H := H1
    clear H1
    obtain ⟨y137, hy137⟩ : ∃ y_ : List Int, y_ = (([t124, t125] : List Int)) := ⟨_, rfl⟩
    replace H : ((wire_Num.f k 0 82 y137).bind fun bt140 => (some (bt140.1, bt140.2.1, bt140.2.2.1, bt140.2.2.2.1, bt140.2.2.2.2.1, bt140.2.2.2.2.2))) = some (r1, r2, r3, r4, r5, r6) := by first | (rw [hy137]; with_reducible exact H) | (have H2_ := (Option.bind_some _ _).symm.trans H; rw [hy137]; with_reducible exact H2_) | (have H2_ := (Option.bind_some _ _).symm.trans H; with_reducible exact H2_) | with_reducible exact H | (rw [hy137]; exact H) | exact H
    have Ny137 := Aside0.mk hy137
    clear hy137
    replace H := Option.bind_eq_some_iff.mp H
    obtain ⟨⟨t140, t141, t142, t145, t146, t147⟩, A190, H⟩ := H
    replace H : (some (t140, t141, t142, t145, t146, t147)) = some (r1, r2, r3, r4, r5, r6) := H
    have A19 := Aside0.mk A190
    clear A190
    simp only [Option.some.injEq, Prod.mk.injEq] at H
    obtain ⟨rfl, rfl, rfl, rfl, rfl, rfl⟩ := H
    go_enter Tryz.func89, Tryz.ntmps89
    try go_wp2_with (first | ((with_reducible refine gate_dst (N := 2) rfl ?_); refine box_event ?hg (N := 2) ?hd (cs := #[.int .i64 a0_0, .int .i64 a0_1, .int .i64 a0_2, .int .i64 a0_3, .int .i64 a0_4, .int .i64 a0_5, .int .i64 a0_6, .int .i64 a0_7, .int .i64 a0_8, .bool a0_9, .bool a0_10, .bool a0_11, .bool a0_12, .bool a0_13, .bool a0_14, .bool a0_15, .int .i64 a0_16, .int .i64 a0_17, .int .i64 a0_18]) (t := 34) ?hr ?_; (case hd => rfl); (case hg => rfl); (case hr => first | (go_simp; done) | (go_simp; rfl)); intro gb122 hg w20 hbox hb; have n0_ := Aside0.mk (below_step (by repeat (first | (with_reducible first | exact HB.out | apply below_alloc | apply pw_below_drewN | apply below_drew1) | exact HB.out)) hb); have n1_ := Aside0.mk (hbox); have n2_ := Aside0.mk ((by rw [hg]; exact (below_size (by repeat (first | (with_reducible first | exact HB.out | apply below_alloc | apply pw_below_drewN | apply below_drew1) | exact HB.out))) : w.heap.size ≤ gb122)); have n3_ := Aside0.mk ((by rw [hg]; exact (below_size (by repeat (first | (with_reducible first | exact HB.out | apply below_alloc | apply pw_below_drewN | apply below_drew1) | exact HB.out))) : w.heap.size ≤ gb122)); clear HB; have HB := n0_; have BK122 := n1_; have GW122 := n2_; have GE122 := n3_; clear n0_ n1_ n2_ n3_; clear hb hbox hg) | ((with_reducible refine gate_dst (N := 4) rfl ?_); refine box_event ?hg (N := 4) ?hd (cs := #[.int .i64 0, .int .u8 0, .slice none 0 0, .string (⟨#[]⟩ : ByteArray), .int .u8 0, .string (⟨#[]⟩ : ByteArray)]) (t := 37) ?hr ?_; (case hd => rfl); (case hg => rfl); (case hr => first | (go_simp; done) | (go_simp; rfl)); intro gb123 hg w21 hbox hb; have n0_ := Aside0.mk (blk_below (g := gb122) (o := .cells #[.int .i64 a0_0, .int .i64 a0_1, .int .i64 a0_2, .int .i64 a0_3, .int .i64 a0_4, .int .i64 a0_5, .int .i64 a0_6, .int .i64 a0_7, .int .i64 a0_8, .bool a0_9, .bool a0_10, .bool a0_11, .bool a0_12, .bool a0_13, .bool a0_14, .bool a0_15, .int .i64 a0_16, .int .i64 a0_17, .int .i64 a0_18] 34 (0, 0)) (by (with_reducible repeat (first | refine blk_drewN ?_ _ | refine blk_drew ?_ | refine blk_alloc ?_ _)); exact BK122.out) hb); have n1_ := Aside0.mk (below_step (by repeat (first | (with_reducible first | exact HB.out | apply below_alloc | apply pw_below_drewN | apply below_drew1 | refine below_set ?_ GE122.out) | exact HB.out)) hb); have n2_ := Aside0.mk (hbox); have n3_ := Aside0.mk ((by rw [hg]; exact (below_size (by repeat (first | (with_reducible first | exact HB.out | apply below_alloc | apply pw_below_drewN | apply below_drew1 | refine below_set ?_ GE122.out) | exact HB.out))) : w.heap.size ≤ gb123)); have n4_ := Aside0.mk ((by rw [hg]; exact (below_size (by repeat (first | (with_reducible first | exact HB.out | apply below_alloc | apply pw_below_drewN | apply below_drew1 | refine below_set ?_ GE122.out) | exact HB.out))) : w.heap.size ≤ gb123)); have n5_ := Aside0.mk ((by rw [hg]; exact Nat.ne_of_lt (blk_lt (g := gb122) (o := .cells #[.int .i64 a0_0, .int .i64 a0_1, .int .i64 a0_2, .int .i64 a0_3, .int .i64 a0_4, .int .i64 a0_5, .int .i64 a0_6, .int .i64 a0_7, .int .i64 a0_8, .bool a0_9, .bool a0_10, .bool a0_11, .bool a0_12, .bool a0_13, .bool a0_14, .bool a0_15, .int .i64 a0_16, .int .i64 a0_17, .int .i64 a0_18] 34 (0, 0)) (by (with_reducible repeat (first | refine blk_drewN ?_ _ | refine blk_drew ?_ | refine blk_alloc ?_ _)); exact BK122.out)) : gb122 ≠ gb123)); have n6_ := Aside0.mk ((by rw [hg]; exact Nat.ne_of_gt (blk_lt (g := gb122) (o := .cells #[.int .i64 a0_0, .int .i64 a0_1, .int .i64 a0_2, .int .i64 a0_3, .int .i64 a0_4, .int .i64 a0_5, .int .i64 a0_6, .int .i64 a0_7, .int .i64 a0_8, .bool a0_9, .bool a0_10, .bool a0_11, .bool a0_12, .bool a0_13, .bool a0_14, .bool a0_15, .int .i64 a0_16, .int .i64 a0_17, .int .i64 a0_18] 34 (0, 0)) (by (with_reducible repeat (first | refine blk_drewN ?_ _ | refine blk_drew ?_ | refine blk_alloc ?_ _)); exact BK122.out)) : gb123 ≠ gb122)); clear BK122; clear HB; have BK122 := n0_; have HB := n1_; have BK123 := n2_; have GW123 := n3_; have GE123 := n4_; have NB122_123 := n5_; have NB123_122 := n6_; clear n0_ n1_ n2_ n3_ n4_ n5_ n6_; clear hb hbox hg))
    have n0_ := Aside0.mk (blk_drew BK122.out)
    have n1_ := Aside0.mk (blk_drew BK123.out)
    have n2_ := Aside0.mk (below_drew1 HB.out)
    clear BK122
    clear BK123
    clear HB
    have BK122 := n0_
    have BK123 := n1_
    have HB := n2_
    clear n0_ n1_ n2_
    refine start_ (n := 8) (S := fun w' => w'.cell? ⟨gb122, 0, none⟩ = some (.int .i64 a0_0) ∧ w'.cell? ⟨gb122, 1, none⟩ = some (.int .i64 a0_1) ∧ w'.cell? ⟨gb122, 2, none⟩ = some (.int .i64 a0_2) ∧ w'.cell? ⟨gb122, 3, none⟩ = some (.int .i64 a0_3) ∧ w'.cell? ⟨gb122, 4, none⟩ = some (.int .i64 a0_4) ∧ w'.cell? ⟨gb122, 5, none⟩ = some (.int .i64 a0_5) ∧ w'.cell? ⟨gb122, 6, none⟩ = some (.int .i64 a0_6) ∧ w'.cell? ⟨gb122, 7, none⟩ = some (.int .i64 a0_7) ∧ w'.cell? ⟨gb122, 8, none⟩ = some (.int .i64 a0_8) ∧ w'.cell? ⟨gb122, 9, none⟩ = some (.bool a0_9) ∧ w'.cell? ⟨gb122, 10, none⟩ = some (.bool a0_10) ∧ w'.cell? ⟨gb122, 11, none⟩ = some (.bool a0_11) ∧ w'.cell? ⟨gb122, 12, none⟩ = some (.bool a0_12) ∧ w'.cell? ⟨gb122, 13, none⟩ = some (.bool a0_13) ∧ w'.cell? ⟨gb122, 14, none⟩ = some (.bool a0_14) ∧ w'.cell? ⟨gb122, 15, none⟩ = some (.bool a0_15) ∧ w'.cell? ⟨gb122, 16, none⟩ = some (.int .i64 a0_16) ∧ w'.cell? ⟨gb122, 17, none⟩ = some (.int .i64 a0_17) ∧ w'.cell? ⟨gb122, 18, none⟩ = some (.int .i64 a0_18)) (ds := []) #[false, false, false, false, false, false, false, false] (by kernel_rfl) rfl rfl ⟨(blk_cell BK122.out 0).trans rfl, (blk_cell BK122.out 1).trans rfl, (blk_cell BK122.out 2).trans rfl, (blk_cell BK122.out 3).trans rfl, (blk_cell BK122.out 4).trans rfl, (blk_cell BK122.out 5).trans rfl, (blk_cell BK122.out 6).trans rfl, (blk_cell BK122.out 7).trans rfl, (blk_cell BK122.out 8).trans rfl, (blk_cell BK122.out 9).trans rfl, (blk_cell BK122.out 10).trans rfl, (blk_cell BK122.out 11).trans rfl, (blk_cell BK122.out 12).trans rfl, (blk_cell BK122.out 13).trans rfl, (blk_cell BK122.out 14).trans rfl, (blk_cell BK122.out 15).trans rfl, (blk_cell BK122.out 16).trans rfl, (blk_cell BK122.out 17).trans rfl, (blk_cell BK122.out 18).trans rfl⟩ (fun hHeld => ?_); refine with_tabW report_Place.tab1 report_Place.bits1 (fun HT_ HW_ => ?_)
    generalize w21.drew = w22 at BK122 BK123 HB hHeld ⊢
    refine pure_ (i := 0) (N := some 7) (v := ?_) (a' := ?_) #[true, false, false, false, false, false, false, false] rfl rfl (any_of HT_.out (by kernel_rfl)) (fun _ _ _ h => h) (Or.inl ⟨by rfl, ?_⟩) ?_ ?_
    rotate_left
    · intro w'
      go_simp
      with_reducible rfl
    rotate_left
    · simp only [Act.put, List.setIfInBounds_toArray, List.set_cons_zero, List.set_cons_succ, i64_w, i32_w]
      rfl
    refine pure_ (i := 3) (N := some 10) (v := ?_) (a' := ?_) #[true, false, false, true, false, false, false, false] rfl rfl (any_of HT_.out (by kernel_rfl)) (fun _ _ _ h => h) (Or.inl ⟨by rfl, ?_⟩) ?_ ?_
    rotate_left
    · intro w'
      go_simp
      with_reducible rfl
    rotate_left
    · simp only [Act.put, List.setIfInBounds_toArray, List.set_cons_zero, List.set_cons_succ, i64_w, i32_w]
      rfl
    refine take_ (i := 1) (N := some 8) (v := ?_) (a' := ?_) #[true, true, false, true, false, false, false, false] rfl rfl (take_ofW HT_.out HW_.out (by kernel_rfl)) (fun _ _ _ h => h) (Or.inl ⟨by rfl, ?_⟩) hHeld ?_ ?_
    rotate_left
    · rintro w' ⟨s0, s1, s2, s3, s4, s5, s6, s7, s8, s9, s10, s11, s12, s13, s14, s15, s16, s17, s18⟩
      go_simp
      with_reducible rfl
    rotate_left
    · simp only [Act.put, List.setIfInBounds_toArray, List.set_cons_zero, List.set_cons_succ, i64_w, i32_w]
      rfl
    refine take_ (i := 4) (N := some 11) (v := ?_) (a' := ?_) #[true, true, false, true, true, false, false, false] rfl rfl (take_ofW HT_.out HW_.out (by kernel_rfl)) (fun _ _ _ h => h) (Or.inl ⟨by rfl, ?_⟩) hHeld ?_ ?_
    rotate_left
    · rintro w' ⟨s0, s1, s2, s3, s4, s5, s6, s7, s8, s9, s10, s11, s12, s13, s14, s15, s16, s17, s18⟩
      go_simp
      with_reducible rfl
    rotate_left
    · simp only [Act.put, List.setIfInBounds_toArray, List.set_cons_zero, List.set_cons_succ, i64_w, i32_w]
      rfl
    refine one_ (i := 2) (N := some 9) #[true, true, true, true, true, false, false, false] rfl rfl (one_of HT_.out (by kernel_rfl)) (by decide) (fun K hK => ?_)
    refine goes_ Tryz.func98 (by kernel_rfl) rfl #[.int .i64 a0_2] (by rfl) rfl rfl (by (try simp only [List.map_toArray, List.map_cons, List.map_nil]); first | done | rfl | (simp only [List.length_drop, List.length_take]; rfl)) ?_
    with_reducible refine (report_fact.calls a0_2 t124 _ A3.out).mono ?_
    rintro e w23 ⟨rfl, hb⟩
    refine ⟨_, rfl, ?_⟩
    have n0_ := Aside0.mk (blk_below (g := gb122) (o := .cells #[.int .i64 a0_0, .int .i64 a0_1, .int .i64 a0_2, .int .i64 a0_3, .int .i64 a0_4, .int .i64 a0_5, .int .i64 a0_6, .int .i64 a0_7, .int .i64 a0_8, .bool a0_9, .bool a0_10, .bool a0_11, .bool a0_12, .bool a0_13, .bool a0_14, .bool a0_15, .int .i64 a0_16, .int .i64 a0_17, .int .i64 a0_18] 34 (0, 0)) (by (with_reducible repeat (first | refine blk_drewN ?_ _ | refine blk_drew ?_ | refine blk_alloc ?_ _)); exact BK122.out) hb)
    have n1_ := Aside0.mk (blk_below (g := gb123) (o := .cells #[.int .i64 0, .int .u8 0, .slice none 0 0, .string (⟨#[]⟩ : ByteArray), .int .u8 0, .string (⟨#[]⟩ : ByteArray)] 37 (0, 0)) (by (with_reducible repeat (first | refine blk_drewN ?_ _ | refine blk_drew ?_ | refine blk_alloc ?_ _)); exact BK123.out) hb)
    have n2_ := Aside0.mk (below_step (by repeat (first | (with_reducible first | exact HB.out | apply below_alloc | apply pw_below_drewN | apply below_drew1 | refine below_set ?_ GE122.out | refine below_set ?_ GE123.out) | exact HB.out)) hb)
    clear BK122
    clear BK123
    clear HB
    have BK122 := n0_
    have BK123 := n1_
    have HB := n2_
    clear n0_ n1_ n2_
    (try clear hb)
    (try clear hb2)
    (try clear hk)
    (try clear hi)
    refine hK.out _ _ ⟨(blk_cell BK122.out 0).trans rfl, (blk_cell BK122.out 1).trans rfl, (blk_cell BK122.out 2).trans rfl, (blk_cell BK122.out 3).trans rfl, (blk_cell BK122.out 4).trans rfl, (blk_cell BK122.out 5).trans rfl, (blk_cell BK122.out 6).trans rfl, (blk_cell BK122.out 7).trans rfl, (blk_cell BK122.out 8).trans rfl, (blk_cell BK122.out 9).trans rfl, (blk_cell BK122.out 10).trans rfl, (blk_cell BK122.out 11).trans rfl, (blk_cell BK122.out 12).trans rfl, (blk_cell BK122.out 13).trans rfl, (blk_cell BK122.out 14).trans rfl, (blk_cell BK122.out 15).trans rfl, (blk_cell BK122.out 16).trans rfl, (blk_cell BK122.out 17).trans rfl, (blk_cell BK122.out 18).trans rfl⟩ (fun hHeld => ?_)
    clear hK K
    refine norm_ (a' := ?_) ?_ ?_
    rotate_left
    · show Act.put _ (some 9) _ = _
      simp only [Act.put, List.setIfInBounds_toArray, List.set_cons_zero, List.set_cons_succ, i64_w, i32_w]
      rfl
    refine one_ (i := 5) (N := some 12) #[true, true, true, true, true, true, false, false] rfl rfl (one_of HT_.out (by kernel_rfl)) (by decide) (fun K hK => ?_)
    refine goes_ Tryz.func98 (by kernel_rfl) rfl #[.int .i64 a0_3] (by rfl) rfl rfl (by (try simp only [List.map_toArray, List.map_cons, List.map_nil]); first | done | rfl | (simp only [List.length_drop, List.length_take]; rfl)) ?_
    with_reducible refine (report_fact.calls a0_3 t125 _ A4.out).mono ?_
    rintro e w24 ⟨rfl, hb⟩
    refine ⟨_, rfl, ?_⟩
    have n0_ := Aside0.mk (blk_below (g := gb122) (o := .cells #[.int .i64 a0_0, .int .i64 a0_1, .int .i64 a0_2, .int .i64 a0_3, .int .i64 a0_4, .int .i64 a0_5, .int .i64 a0_6, .int .i64 a0_7, .int .i64 a0_8, .bool a0_9, .bool a0_10, .bool a0_11, .bool a0_12, .bool a0_13, .bool a0_14, .bool a0_15, .int .i64 a0_16, .int .i64 a0_17, .int .i64 a0_18] 34 (0, 0)) (by (with_reducible repeat (first | refine blk_drewN ?_ _ | refine blk_drew ?_ | refine blk_alloc ?_ _)); exact BK122.out) hb)
    have n1_ := Aside0.mk (blk_below (g := gb123) (o := .cells #[.int .i64 0, .int .u8 0, .slice none 0 0, .string (⟨#[]⟩ : ByteArray), .int .u8 0, .string (⟨#[]⟩ : ByteArray)] 37 (0, 0)) (by (with_reducible repeat (first | refine blk_drewN ?_ _ | refine blk_drew ?_ | refine blk_alloc ?_ _)); exact BK123.out) hb)
    have n2_ := Aside0.mk (below_step (by repeat (first | (with_reducible first | exact HB.out | apply below_alloc | apply pw_below_drewN | apply below_drew1 | refine below_set ?_ GE122.out | refine below_set ?_ GE123.out) | exact HB.out)) hb)
    clear BK122
    clear BK123
    clear HB
    have BK122 := n0_
    have BK123 := n1_
    have HB := n2_
    clear n0_ n1_ n2_
    (try clear hb)
    (try clear hb2)
    (try clear hk)
    (try clear hi)
    refine hK.out _ _ ⟨(blk_cell BK122.out 0).trans rfl, (blk_cell BK122.out 1).trans rfl, (blk_cell BK122.out 2).trans rfl, (blk_cell BK122.out 3).trans rfl, (blk_cell BK122.out 4).trans rfl, (blk_cell BK122.out 5).trans rfl, (blk_cell BK122.out 6).trans rfl, (blk_cell BK122.out 7).trans rfl, (blk_cell BK122.out 8).trans rfl, (blk_cell BK122.out 9).trans rfl, (blk_cell BK122.out 10).trans rfl, (blk_cell BK122.out 11).trans rfl, (blk_cell BK122.out 12).trans rfl, (blk_cell BK122.out 13).trans rfl, (blk_cell BK122.out 14).trans rfl, (blk_cell BK122.out 15).trans rfl, (blk_cell BK122.out 16).trans rfl, (blk_cell BK122.out 17).trans rfl, (blk_cell BK122.out 18).trans rfl⟩ (fun hHeld => ?_)
    clear hK K
    refine norm_ (a' := ?_) ?_ ?_
    rotate_left
    · show Act.put _ (some 12) _ = _
      simp only [Act.put, List.setIfInBounds_toArray, List.set_cons_zero, List.set_cons_succ, i64_w, i32_w]
      rfl
    refine pure_ (i := 6) (N := some 5) (v := ?_) (a' := ?_) #[true, true, true, true, true, true, true, false] rfl rfl (any_of HT_.out (by kernel_rfl)) (fun _ _ _ h => h) (Or.inl ⟨by rfl, ?_⟩) ?_ ?_
    rotate_left
    · intro w'
      go_simp
      with_reducible rfl
    rotate_left
    · simp only [Act.put, List.setIfInBounds_toArray, List.set_cons_zero, List.set_cons_succ, i64_w, i32_w]
      rfl
    refine pure_ (i := 7) (N := some 6) (v := ?_) (a' := ?_) #[true, true, true, true, true, true, true, true] rfl rfl (any_of HT_.out (by kernel_rfl)) (fun _ _ _ h => h) (Or.inl ⟨by rfl, ?_⟩) ?_ ?_
    rotate_left
    · intro w'
      go_simp
      with_reducible rfl
    rotate_left
    · simp only [Act.put, List.setIfInBounds_toArray, List.set_cons_zero, List.set_cons_succ, i64_w, i32_w]
      rfl
    refine done_ (done_of HT_.out (by kernel_rfl)) ?_
    try go_wp2_with (first | ((with_reducible refine gate_dst (N := 20) rfl ?_); refine Kd.R_lit (Kd.int .i64) _ 3 ?hg (N := 20) ?hd (xs := ([t124, t125] : List Int)) (inner := [.int .i64 t124, .int .i64 t125]) (ok := fun _ => True) (okp := fun _ => True) ?hr ?hp (fun _ hk => hk) trivial (Below.refl _ _) (Nat.le_refl _) (by simp) ?_; (case hd => rfl); (case hg => rfl); (case hr => first | (go_simp; done) | (go_simp; rfl)); (case hp => exact (Reps.one (show Kd.M (Kd.int .i64) _ _ _ t124 [.int .i64 t124] from rfl) (Reps.one (show Kd.M (Kd.int .i64) _ _ _ t125 [.int .i64 t125] from rfl) (Reps.none _ _)))); intro v138 w25 ho26 hb hg_ hnew_; clear hg_ hnew_; (first | rw [← Ny137.out] at ho26 | (simp only [Int.reduceToNat] at ho26; rw [← Ny137.out] at ho26)); have n0_ := Aside0.mk (Kd.R_lower ho26 (below_size (by repeat (first | (with_reducible first | exact HB.out | apply below_alloc | apply pw_below_drewN | apply below_drew1 | refine below_set ?_ GE122.out | refine below_set ?_ GE123.out) | exact HB.out)))); have n1_ := Aside0.mk (blk_below (g := gb122) (o := .cells #[.int .i64 a0_0, .int .i64 a0_1, .int .i64 a0_2, .int .i64 a0_3, .int .i64 a0_4, .int .i64 a0_5, .int .i64 a0_6, .int .i64 a0_7, .int .i64 a0_8, .bool a0_9, .bool a0_10, .bool a0_11, .bool a0_12, .bool a0_13, .bool a0_14, .bool a0_15, .int .i64 a0_16, .int .i64 a0_17, .int .i64 a0_18] 34 (0, 0)) (by (with_reducible repeat (first | refine blk_drewN ?_ _ | refine blk_drew ?_ | refine blk_alloc ?_ _)); exact BK122.out) hb); have n2_ := Aside0.mk (blk_below (g := gb123) (o := .cells #[.int .i64 0, .int .u8 0, .slice none 0 0, .string (⟨#[]⟩ : ByteArray), .int .u8 0, .string (⟨#[]⟩ : ByteArray)] 37 (0, 0)) (by (with_reducible repeat (first | refine blk_drewN ?_ _ | refine blk_drew ?_ | refine blk_alloc ?_ _)); exact BK123.out) hb); have n3_ := Aside0.mk (below_step (by repeat (first | (with_reducible first | exact HB.out | apply below_alloc | apply pw_below_drewN | apply below_drew1 | refine below_set ?_ GE122.out | refine below_set ?_ GE123.out) | exact HB.out)) hb); clear BK122; clear BK123; clear HB; have HO139 := n0_; have BK122 := n1_; have BK123 := n2_; have HB := n3_; clear n0_ n1_ n2_ n3_; clear hb ho26; obtain ⟨Ao27, co27, eo27⟩ := Kd.R_slice HO139.out; subst eo27) | ((with_reducible refine gate_callee (f := 127) rfl ?_); refine goesL_ (some 21) rfl rfl Tryz.func127 (by kernel_rfl) rfl #[.int .u8 0, .int .u8 82, .slice Ao27 y137.length co27] rfl (by (try simp only [List.map_toArray, List.map_cons, List.map_nil]); first | done | rfl | (simp only [List.length_drop, List.length_take]; rfl)) ?_; (with_reducible refine (wire_Num.calls k 0 82 _ _ y137 t140 t141 t142 t145 t146 t147 _ ?side1 ?side2 A19.out).mono ?_); (case side1 => repeat (first | exact (Kd.R_reads' HO139.out).2.2 | (with_reducible refine Kd.C_alloc ?_ _) | (with_reducible refine Kd.C_drewN ?_ _) | (with_reducible refine Kd.C_drew ?_))); (case side2 => exact (Kd.R_reads' HO139.out).2.1); rintro e w28 ⟨v143, rfl, ho0, hb⟩; refine ⟨_, rfl, ?_⟩; have n0_ := Aside0.mk (Kd.R_below (by (with_reducible repeat (first | apply Kd.R_alloc | apply Kd.R_drewN | apply Kd.R_drew)); exact HO139.out) hb); have n1_ := Aside0.mk (Kd.S_lower (Kd.S_new' ho0 (Kd.R_lt (by (with_reducible repeat (first | apply Kd.R_alloc | apply Kd.R_drewN | apply Kd.R_drew)); exact HO139.out))) (below_size (by repeat (first | (with_reducible first | exact HB.out | apply below_alloc | apply pw_below_drewN | apply below_drew1 | refine below_set ?_ GE122.out | refine below_set ?_ GE123.out) | exact HB.out)))); have n2_ := Aside0.mk (blk_below (g := gb122) (o := .cells #[.int .i64 a0_0, .int .i64 a0_1, .int .i64 a0_2, .int .i64 a0_3, .int .i64 a0_4, .int .i64 a0_5, .int .i64 a0_6, .int .i64 a0_7, .int .i64 a0_8, .bool a0_9, .bool a0_10, .bool a0_11, .bool a0_12, .bool a0_13, .bool a0_14, .bool a0_15, .int .i64 a0_16, .int .i64 a0_17, .int .i64 a0_18] 34 (0, 0)) (by (with_reducible repeat (first | refine blk_drewN ?_ _ | refine blk_drew ?_ | refine blk_alloc ?_ _)); exact BK122.out) hb); have n3_ := Aside0.mk (blk_below (g := gb123) (o := .cells #[.int .i64 0, .int .u8 0, .slice none 0 0, .string (⟨#[]⟩ : ByteArray), .int .u8 0, .string (⟨#[]⟩ : ByteArray)] 37 (0, 0)) (by (with_reducible repeat (first | refine blk_drewN ?_ _ | refine blk_drew ?_ | refine blk_alloc ?_ _)); exact BK123.out) hb); have n4_ := Aside0.mk (below_step (by repeat (first | (with_reducible first | exact HB.out | apply below_alloc | apply pw_below_drewN | apply below_drew1 | refine below_set ?_ GE122.out | refine below_set ?_ GE123.out) | exact HB.out)) hb); clear HO139; clear BK122; clear BK123; clear HB; have HO139 := n0_; have HO144 := n1_; have BK122 := n2_; have BK123 := n3_; have HB := n4_; clear n0_ n1_ n2_ n3_ n4_; (try clear hb); (try clear hb2); (try clear hk); (try clear hi); (try clear ho0); have hnb29 := NB123_122.out; have hnc29 := NB122_123.out; have hcz30_0 : w28.cell? ⟨gb123, 0, none⟩ = some (.int .i64 0) := (blk_cell BK123.out 0).trans rfl; have hcz30_1 : w28.cell? ⟨gb123, 1, none⟩ = some (.int .u8 0) := (blk_cell BK123.out 1).trans rfl; have hcz30_2 : w28.cell? ⟨gb123, 2, none⟩ = some (.slice none 0 0) := (blk_cell BK123.out 2).trans rfl; have hcz30_3 : w28.cell? ⟨gb123, 3, none⟩ = some (.string (⟨#[]⟩ : ByteArray)) := (blk_cell BK123.out 3).trans rfl; have hcz30_4 : w28.cell? ⟨gb123, 4, none⟩ = some (.int .u8 0) := (blk_cell BK123.out 4).trans rfl; have hcz30_5 : w28.cell? ⟨gb123, 5, none⟩ = some (.string (⟨#[]⟩ : ByteArray)) := (blk_cell BK123.out 5).trans rfl; have hfz30_0 := blk_frozen BK123.out 0; have hfz30_1 := blk_frozen BK123.out 1; have hfz30_2 := blk_frozen BK123.out 2; have hfz30_3 := blk_frozen BK123.out 3; have hfz30_4 := blk_frozen BK123.out 4; have hfz30_5 := blk_frozen BK123.out 5; obtain ⟨Ao31, co31, eo31⟩ := Kd.S_slice HO144.out; subst eo31))
    refine bodyPost_ret (results_cell_row rfl _ _ gb123 37 #[.int .i64 t140, .int .u8 t141, .slice Ao31 t142.length co31, .string t145, .int .u8 t146, .string t147] (0, 0) _ rfl (by (with_reducible repeat (first | refine blk_drewN ?_ _ | refine blk_drew ?_ | refine blk_alloc ?_ _)); refine blk_put (cs := #[.int .i64 t140, .int .u8 t141, .slice Ao31 t142.length co31, .string t145, .int .u8 t146, .string (⟨#[]⟩ : ByteArray)]) ?_ 5 _ rfl; (with_reducible repeat (first | refine blk_drewN ?_ _ | refine blk_drew ?_ | refine blk_alloc ?_ _)); refine blk_put (cs := #[.int .i64 t140, .int .u8 t141, .slice Ao31 t142.length co31, .string t145, .int .u8 0, .string (⟨#[]⟩ : ByteArray)]) ?_ 4 _ rfl; (with_reducible repeat (first | refine blk_drewN ?_ _ | refine blk_drew ?_ | refine blk_alloc ?_ _)); refine blk_put (cs := #[.int .i64 t140, .int .u8 t141, .slice Ao31 t142.length co31, .string (⟨#[]⟩ : ByteArray), .int .u8 0, .string (⟨#[]⟩ : ByteArray)]) ?_ 3 _ rfl; (with_reducible repeat (first | refine blk_drewN ?_ _ | refine blk_drew ?_ | refine blk_alloc ?_ _)); refine blk_put (cs := #[.int .i64 t140, .int .u8 t141, .slice none 0 0, .string (⟨#[]⟩ : ByteArray), .int .u8 0, .string (⟨#[]⟩ : ByteArray)]) ?_ 2 _ rfl; (with_reducible repeat (first | refine blk_drewN ?_ _ | refine blk_drew ?_ | refine blk_alloc ?_ _)); refine blk_put (cs := #[.int .i64 t140, .int .u8 0, .slice none 0 0, .string (⟨#[]⟩ : ByteArray), .int .u8 0, .string (⟨#[]⟩ : ByteArray)]) ?_ 1 _ rfl; (with_reducible repeat (first | refine blk_drewN ?_ _ | refine blk_drew ?_ | refine blk_alloc ?_ _)); refine blk_put (cs := #[.int .i64 0, .int .u8 0, .slice none 0 0, .string (⟨#[]⟩ : ByteArray), .int .u8 0, .string (⟨#[]⟩ : ByteArray)]) ?_ 0 _ rfl; (with_reducible repeat (first | refine blk_drewN ?_ _ | refine blk_drew ?_ | refine blk_alloc ?_ _)); exact BK123.out) Tryz.underlying37 rfl (by kernel_rfl)) rfl ?_
    exact ⟨_, by first | rfl | (simp [errW_none, errW_some] <;> rfl) | (simp [*, errW_none, errW_some] <;> rfl), by (with_reducible repeat (first | apply Kd.S_alloc | apply Kd.S_drewN | apply Kd.S_drew)); exact Kd.S_mono (Kd.S_far (p := ⟨gb123, 5, none⟩) (Kd.S_far (p := ⟨gb123, 4, none⟩) (Kd.S_far (p := ⟨gb123, 3, none⟩) (Kd.S_far (p := ⟨gb123, 2, none⟩) (Kd.S_far (p := ⟨gb123, 1, none⟩) (Kd.S_far (p := ⟨gb123, 0, none⟩) (Kd.S_types HO144.out BK123.out (by decide)) (fun _ hk => hk.2) (.int .i64 t140)) (fun _ hk => hk.2) (.int .u8 t141)) (fun _ hk => hk.2) (.slice Ao31 t142.length co31)) (fun _ hk => hk.2) (.string t145)) (fun _ hk => hk.2) (.int .u8 t146)) (fun _ hk => hk.2) (.string t147)) (fun _ hk => trivial), by repeat (first | (with_reducible first | exact HB.out | apply below_alloc | apply pw_below_drewN | apply below_drew1 | refine below_set ?_ GE122.out | refine below_set ?_ GE123.out) | exact HB.out)⟩
end Go.Proofs.YtdmifbffamckbaaGreatDoor.G
end
section
namespace Go.Proofs.YtdmifbffamckbaaGreatDoor
set_option linter.unusedVariables false
set_option linter.unusedSimpArgs false
open Go.RowKit Kit Go.Shelf Go.Proofs.YtdmifbffamckbaaGreatDoorW.PrintWords
attribute [local irreducible] wpList Calls wpQuiet
set_option maxRecDepth 100000 in
set_option maxHeartbeats 8000000 in
theorem status_place (w : World) (st : List Value) (s0 s1 s2 s3 s4 s5 s6 s7 s8 s9 s10 s11 : Int) (b0 b1 b2 b3 b4 b5 b6 : Bool) (k p f : Int) (i dt : ByteArray) (A : Option Addr) (c : Nat) (l : List (List Int)) (hc : l.length ≤ c) (hr : SeqAt w A l) (h6 : argI l 0 (-1) = 6) (fu : Nat) (r1 r2 r5 : Int) (r3 : List (List Int)) (r4 r6 : ByteArray) (hf : G.report_Place.f fu s0 s1 s2 s3 s4 s5 s6 s7 s8 b0 b1 b2 b3 b4 b5 b6 s9 s10 s11 (p == 63) = some (r1, r2, r3, r4, r5, r6)) :
    DeedOk w st st (.plain 51) (.agg #[.int .i64 s0, .int .i64 s1, .int .i64 s2, .int .i64 s3, .int .i64 s4, .int .i64 s5, .int .i64 s6, .int .i64 s7, .int .i64 s8, .bool b0, .bool b1, .bool b2, .bool b3, .bool b4, .bool b5, .bool b6, .int .i64 s9, .int .i64 s10, .int .i64 s11]) (.agg #[.int .i64 k, .int .u8 p, .slice A l.length c, .string i, .int .u8 f, .string dt]) (fun v R => ∃ gA v2, v = .slice (some ⟨gA, 0, none⟩) 1 1 ∧ R = [(gA, IsCells [.int .i64 r1, .int .u8 r2, v2, .string r4, .int .u8 r5, .string r6] 37)]) := by
  intro gs bs v W hv HO
  obtain rfl : v = .func (.func 51) #[] #[] := hv
  refine ⟨_, _, rfl, enters_of Tryz.func51 (by kernel_rfl) rfl, ?_⟩
  rw [Array.append_empty]
  have HA := Lib.hid fun W (hW : Below w.heap.size w W) => arg_calls k p f i dt A c l hc 0 (-1) W (Kd.C_below hr hW)
  rw [h6] at HA
  obtain ⟨pr, hpr⟩ : ∃ pr, (p == 63) = pr := ⟨_, rfl⟩
  rw [hpr] at hf
  have HP := Lib.hid fun W => G.report_Place.calls fu s0 s1 s2 s3 s4 s5 s6 s7 s8 b0 b1 b2 b3 b4 b5 b6 s9 s10 s11 pr r1 r2 r3 r4 r5 r6 W hf
  clear hr hc h6 hf
  go_enter Tryz.func51, Tryz.ntmps51
  go_wp2_with (first
    | (go_at_call 86; refine (HA.out _ HO.below).mono ?_; rintro eN wN ⟨rfl, hbN⟩; have HON := HO.call hbN; clear HO hbN; have HO := HON; clear HON)
    | (go_at_call 89; refine (HP.out _).mono ?_; rintro eN wN ⟨v2, rfl, hS, hbN⟩; have HON := HO.call hbN; clear HO hbN; have HO := HON; clear HON)
    | ((with_reducible refine gateAt (N := 4) rfl ?_); refine own_boxF (T := 34) (cs := [.int .i64 s0, .int .i64 s1, .int .i64 s2, .int .i64 s3, .int .i64 s4, .int .i64 s5, .int .i64 s6, .int .i64 s7, .int .i64 s8, .bool b0, .bool b1, .bool b2, .bool b3, .bool b4, .bool b5, .bool b6, .int .i64 s9, .int .i64 s10, .int .i64 s11]) HO rfl rfl rfl ?_; clear HO; intro gf wN hggf HO; (try simp only [Act.put, List.setIfInBounds_toArray, List.set_cons_zero, List.set_cons_succ]))
    | ((with_reducible refine gateAt (N := 5) rfl ?_); refine own_boxF (T := 37) (cs := [.int .i64 k, .int .u8 p, .slice A l.length c, .string i, .int .u8 f, .string dt]) HO rfl rfl rfl ?_; clear HO; intro gq wN hggq HO; (try simp only [Act.put, List.setIfInBounds_toArray, List.set_cons_zero, List.set_cons_succ]))
    | ((with_reducible refine gateAt (N := 28) rfl ?_); refine own_litF HO rfl (n := 1) (cs := [.int .i64 r1, .int .u8 r2, v2, .string r4, .int .u8 r5, .string r6]) (T := 37) (by first | (go_simp; done) | (go_simp; rfl)) ?_; clear HO; intro gA wN hggA HO; (try simp only [Act.put, List.setIfInBounds_toArray, List.set_cons_zero, List.set_cons_succ]))
    | (first
      | ((with_reducible refine gate ?_); (first
      | ((refine own_load (T := 37) HO rfl rfl rfl (by first | exact .head _ | exact .tail _ (.head _) | exact .tail _ (.tail _ (.head _)) | exact .tail _ (.tail _ (.tail _ (.head _))) | exact .tail _ (.tail _ (.tail _ (.tail _ (.head _)))) | exact .tail _ (.tail _ (.tail _ (.tail _ (.tail _ (.head _)))))) Tryz.isAgg37 Tryz.sizeOf37 (by repeat constructor) ?_); (try simp only [Act.put, List.setIfInBounds_toArray, List.set_cons_zero, List.set_cons_succ]))
      | ((refine own_load (T := 34) HO rfl rfl rfl (by first | exact .head _ | exact .tail _ (.head _) | exact .tail _ (.tail _ (.head _)) | exact .tail _ (.tail _ (.tail _ (.head _))) | exact .tail _ (.tail _ (.tail _ (.tail _ (.head _)))) | exact .tail _ (.tail _ (.tail _ (.tail _ (.tail _ (.head _)))))) Tryz.isAgg34 Tryz.sizeOf34 (by repeat constructor) ?_); (try simp only [Act.put, List.setIfInBounds_toArray, List.set_cons_zero, List.set_cons_succ]))
      | ((refine own_load1 (T := 5) HO rfl rfl rfl (by first | exact .head _ | exact .tail _ (.head _) | exact .tail _ (.tail _ (.head _)) | exact .tail _ (.tail _ (.tail _ (.head _))) | exact .tail _ (.tail _ (.tail _ (.tail _ (.head _)))) | exact .tail _ (.tail _ (.tail _ (.tail _ (.tail _ (.head _)))))) Tryz.isAgg5 rfl ?_); (try simp only [Act.put, List.setIfInBounds_toArray, List.set_cons_zero, List.set_cons_succ]))
      | ((refine own_store1 (T := 5) HO rfl rfl rfl (by first | exact .const | exact .tmp rfl | exact .func) (by rfl) (by first | exact .here | exact .there (.here) | exact .there (.there (.here)) | exact .there (.there (.there (.here))) | exact .there (.there (.there (.there (.here)))) | exact .there (.there (.there (.there (.there (.here)))))) Tryz.sizeOf5 (by repeat constructor) (by rfl) ?_); clear HO; intro wN HO; (try simp only [Act.put, List.setIfInBounds_toArray, List.set_cons_zero, List.set_cons_succ]))
      | ((refine own_store (T := 37) HO rfl rfl rfl rfl (by first | exact .here | exact .there (.here) | exact .there (.there (.here)) | exact .there (.there (.there (.here))) | exact .there (.there (.there (.there (.here)))) | exact .there (.there (.there (.there (.there (.here)))))) Tryz.sizeOf37 (by repeat constructor) rfl ?_); clear HO; intro wN HO; (try simp only [Act.put, List.setIfInBounds_toArray, List.set_cons_zero, List.set_cons_succ]))
      | ((refine own_store (T := 34) HO rfl rfl rfl rfl (by first | exact .here | exact .there (.here) | exact .there (.there (.here)) | exact .there (.there (.there (.here))) | exact .there (.there (.there (.there (.here)))) | exact .there (.there (.there (.there (.there (.here)))))) Tryz.sizeOf34 (by repeat constructor) rfl ?_); clear HO; intro wN HO; (try simp only [Act.put, List.setIfInBounds_toArray, List.set_cons_zero, List.set_cons_succ]))))))
  go_ret
  exact ⟨_, _, rfl, (HO.less (.cons_cons _ (.cons _ (.cons _ (.refl _))))).perm (List.perm_append_comm (l₁ := [_])), gA, v2, rfl, rfl⟩
end Go.Proofs.YtdmifbffamckbaaGreatDoor
end
section
namespace Go.Proofs.YtdmifbffamckbaaGreatDoor
set_option linter.unusedVariables false
set_option linter.unusedSimpArgs false
open Go.RowKit Kit
theorem Md.ext_iff' (m n : Md) : (m.cursor == n.cursor && (m.keypad == n.keypad && (m.back == n.back && (m.focus == n.focus && (m.paste == n.paste && (m.lock == n.lock && (m.line == n.line && (m.mouse == n.mouse && (m.coding == n.coding && (m.other == n.other && true)))))))))) = decide (m = n) := by
  rw [Bool.eq_iff_iff]
  cases m; cases n
  simp [and_assoc]
theorem equal_modes (m n : Md) (w : World) : (Op.equal 23 m.v n.v).run Tryz.prog w = .ok (decide (m = n)) w := by
  rw [← Md.ext_iff']
  refine eqStruct_of Tryz.underlying23 (by kernel_rfl) ?_
  refine eqF_cons (by rfl) (by go_simp; rfl) (by go_simp; rfl) (by go_simp) ?_
  refine eqF_cons (by rfl) (by go_simp; rfl) (by go_simp; rfl) (by go_simp) ?_
  refine eqF_cons (by rfl) (by go_simp; rfl) (by go_simp; rfl) (by go_simp) ?_
  refine eqF_cons (by rfl) (by go_simp; rfl) (by go_simp; rfl) (by go_simp) ?_
  refine eqF_cons (by rfl) (by go_simp; rfl) (by go_simp; rfl) (by go_simp) ?_
  refine eqF_cons (by rfl) (by go_simp; rfl) (by go_simp; rfl) (by go_simp) ?_
  refine eqF_cons (by rfl) (by go_simp; rfl) (by go_simp; rfl) (by go_simp) ?_
  refine eqF_cons (by rfl) (by go_simp; rfl) (by go_simp; rfl) (by go_simp) ?_
  refine eqF_cons (by rfl) (by go_simp; rfl) (by go_simp; rfl) (by go_simp) ?_
  refine eqF_cons (by rfl) (by go_simp; rfl) (by go_simp; rfl) (by go_simp) ?_
  exact eqF_nil
end Go.Proofs.YtdmifbffamckbaaGreatDoor
end
section
namespace Go.Proofs.YtdmifbffamckbaaGreatDoor
set_option linter.unusedVariables false
set_option linter.unusedSimpArgs false
open Go.RowKit Kit
abbrev u8s (l : List Int) : List Value := l.map (Value.int .u8)
theorem part_u8 (xs : List Int) (i : Nat) (h : i < xs.length) (w : World) : (part 5 (u8s xs).toArray (i * 1)).run Tryz.prog w = .ok (.int .u8 (xs.getD i 0)) w := by
  have hx : (u8s xs)[i]? = some (.int .u8 (xs.getD i 0)) := by simp [h, List.getD]
  have h1 := Tryz.isAgg5 w
  simp [part, Sem.run_bind, h1, hx, h, Sem.run, Result.andThen, List.getD]
theorem eqItems_u8 (d : Nat) (xs ys : List Int) (w : World) : ∀ (is : List Nat), (∀ i ∈ is, i < xs.length ∧ i < ys.length) →
    (Op.eqItems (d + 1) 5 1 (u8s xs).toArray (u8s ys).toArray is).run Tryz.prog w = .ok (is.all fun i => xs.getD i 0 == ys.getD i 0) w
  | [], _ => by simp [Op.eqItems]
  | i :: is, h => by
    have hi := h i (by simp)
    have ih := eqItems_u8 d xs ys w is (fun j hj => h j (by simp [hj]))
    have e : (Op.equalIn (d + 1) 5 (.int .u8 (xs.getD i 0)) (.int .u8 (ys.getD i 0))).run Tryz.prog w = .ok (xs.getD i 0 == ys.getD i 0) w := by go_simp
    simp only [Op.eqItems, Sem.run_bind, part_u8 xs i hi.1, part_u8 ys i hi.2, Result.andThen_ok, e]
    rw [List.all_cons]
    cases hb : xs.getD i 0 == ys.getD i 0
    · simp only [Bool.not_false, if_true, Sem.run_pure, Bool.false_and]
    · simp only [Bool.not_true, Bool.false_eq_true, if_false, Bool.true_and]
      exact ih
theorem all_same (xs ys : List Int) (hx : xs.length = 12) (hy : ys.length = 12) : ((List.range 12).all fun i => xs.getD i 0 == ys.getD i 0) = decide (xs = ys) := by
  rw [Bool.eq_iff_iff, decide_eq_true_iff, List.all_eq_true]
  constructor
  · intro h
    apply List.ext_getElem (by omega)
    intro i h1 h2
    have := h i (List.mem_range.2 (by omega))
    simpa [List.getD, h1, h2] using this
  · rintro rfl i _
    simp
theorem equal_saved (xs ys : List Int) (hx : xs.length = 12) (hy : ys.length = 12) (w : World) : (Op.equal 41 (.agg (u8s xs).toArray) (.agg (u8s ys).toArray)).run Tryz.prog w = .ok (decide (xs = ys)) w := by
  obtain ⟨i, hi⟩ : ∃ i, Tryz.prog.info? 5 = some i := Option.isSome_iff_exists.1 (by kernel_rfl : (Tryz.prog.info? 5).isSome = true)
  rw [← all_same xs ys hx hy]
  refine (run_equalIn_array (P := Tryz.prog) (w := w) _ (u8s xs).toArray (u8s ys).toArray Tryz.underlying41 hi).trans ?_
  rw [show Tryz.prog.cellsOf 5 = 1 by kernel_rfl]
  exact eqItems_u8 _ xs ys w _ (fun i hi => by have := List.mem_range.1 hi; omega)
theorem equal_saved' (xs ys : List Int) (hx : xs.length = 12) (hy : ys.length = 12) (w : World) : (Op.equal 25 (.agg (u8s xs).toArray) (.agg (u8s ys).toArray)).run Tryz.prog w = .ok (decide (xs = ys)) w := by
  obtain ⟨i, hi⟩ : ∃ i, Tryz.prog.info? 5 = some i := Option.isSome_iff_exists.1 (by kernel_rfl : (Tryz.prog.info? 5).isSome = true)
  rw [← all_same xs ys hx hy]
  refine (run_equalIn_array (P := Tryz.prog) (w := w) _ (u8s xs).toArray (u8s ys).toArray Tryz.underlying25 hi).trans ?_
  rw [show Tryz.prog.cellsOf 5 = 1 by kernel_rfl]
  exact eqItems_u8 _ xs ys w _ (fun i hi => by have := List.mem_range.1 hi; omega)
end Go.Proofs.YtdmifbffamckbaaGreatDoor
end
section
namespace Go.Proofs.YtdmifbffamckbaaGreatDoor.G
open Go.RowKit Go.Proofs.YtdmifbffamckbaaGreatDoorW.PrintWords Go.Proofs.YtdmifbffamckbaaGreatDoorW.PrintLast Go.Proofs.YtdmifbffamckbaaGreatDoorW.PrintMore
attribute [local go_sem] max2_int min2_int max_two min_two max_three min_three max_four min_four
set_option linter.unusedVariables false
set_option linter.unusedSimpArgs false
def slices_Equal_int_int.l0 : Nat → List Int → List Int → Int → Int → Option (Bool)
  | 0, _, _, _, _ => none
  | k + 1, x0, x1, x12, x13 => if x13 < x12 then (if 0 ≤ x13 then (if x13 < (x0.length : Int) then (if x13 < (x1.length : Int) then (if (rd x0 x13) = (rd x1 x13) then (slices_Equal_int_int.l0 k x0 x1 x12 (wrap64 (x13 + 1))) else (some false)) else (none)) else (none)) else (none)) else (some true)
def slices_Equal_int_int.f (k : Nat) (l0 : List Int) (l1 : List Int) : Option (Bool) := if (l0.length : Int) = (l1.length : Int) then (slices_Equal_int_int.l0 k l0 l1 (l0.length : Int) 0) else (some false)
theorem slices_Equal_int_int.mono_l : ∀ k, (∀ y0 y1 y2 y3, LeO (slices_Equal_int_int.l0 k y0 y1 y2 y3) (slices_Equal_int_int.l0 (k + 1) y0 y1 y2 y3))
  | 0 => fun _ _ _ _ r h => by simp [slices_Equal_int_int.l0] at h
  | k + 1 => by
    have ih0 := slices_Equal_int_int.mono_l k
    · intro y0 y1 y2 y3
      unfold slices_Equal_int_int.l0
      repeat' first
      | (with_reducible exact ih0 _ _ _ _)
      | (with_reducible exact LeO.refl _)
      | (with_reducible exact LeO.none _)
      | (with_reducible refine LeO.ite ?_ ?_)
      | (with_reducible refine LeO.bind ?_ (fun _ => ?_))
      | exact ih0 _ _ _ _
      | exact LeO.none _
      | refine LeO.ite ?_ ?_
      | refine LeO.bind ?_ (fun _ => ?_)
theorem slices_Equal_int_int.mono : ∀ a0 a1 k, LeO (slices_Equal_int_int.f k a0 a1) (slices_Equal_int_int.f (k + 1) a0 a1) := by
  intro a0 a1 k
  have ih0 := slices_Equal_int_int.mono_l k
  unfold slices_Equal_int_int.f
  repeat' first
      | (with_reducible exact ih0 _ _ _ _)
      | (with_reducible exact LeO.refl _)
      | (with_reducible exact LeO.none _)
      | (with_reducible refine LeO.ite ?_ ?_)
      | (with_reducible refine LeO.bind ?_ (fun _ => ?_))
      | exact ih0 _ _ _ _
      | exact LeO.none _
      | refine LeO.ite ?_ ?_
      | refine LeO.bind ?_ (fun _ => ?_)
set_option maxHeartbeats 8000000 in
set_option maxRecDepth 100000 in
theorem slices_Equal_int_int.calls (k : Nat) (A0 : Option Addr) (c0 : Nat) (l0 : List Int) (A1 : Option Addr) (c1 : Nat) (l1 : List Int) (r : Bool) (w : World) (hr0 : Kd.C (Kd.int .i64) w A0 l0.length l0) (hc0 : l0.length ≤ c0) (hr1 : Kd.C (Kd.int .i64) w A1 l1.length l1) (hc1 : l1.length ≤ c1) (h : slices_Equal_int_int.f k l0 l1 = some r) :
    Calls Tryz.prog 78 #[.slice A0 l0.length c0, .slice A1 l1.length c1] w fun e w' => e = .returned (.bool r) ∧ Drawn0 w w' := by
  have HR0 := Aside0.mk hr0
  have HC0 := Aside0.mk hc0
  clear hr0 hc0
  have HR1 := Aside0.mk hr1
  have HC1 := Aside0.mk hc1
  clear hr1 hc1
  have H : (if (l0.length : Int) = (l1.length : Int) then (slices_Equal_int_int.l0 k l0 l1 (l0.length : Int) 0) else (some false)) = some r := h
  clear h
  by_cases c3 : (l0.length : Int) = (l1.length : Int)
  · rw [if_pos c3] at H
    have c3b0 : ((l0.length : Int) == (l1.length : Int)) = true := beq_iff_eq.mpr c3
    have c3b1 : ((l0.length : Int) != (l1.length : Int)) = false := bne_eq_false_iff_eq.mpr c3
    have c3b2 : (l0.length == l1.length) = true := by first | simpa using c3 | (simp at c3 ⊢; omega)
    clear c3
    have H' := Aside0.mk H
    clear H
    go_enter Tryz.func78, Tryz.ntmps78
    go_wp2
    repeat (go_quiet (fail); try go_wp2)
    go_loopg [13] k (fun kq v13 w' => ∃ (x13_1 : Int), v13 = .int .i64 x13_1 ∧ Aside0 (slices_Equal_int_int.l0 kq l0 l1 (l0.length : Int) x13_1 = some r) ∧ Aside0 (kq ≤ k) ∧ Drawn0 w w')
    case atStart => exact ⟨(0), (by first | rfl | (simp; done) | (simp [*]; done)), H', ⟨Nat.le_refl _⟩, by repeat (first | exact Drawn0.refl _ | apply Drawn0.step)⟩
    case round =>
      clear H'
      try clear c1
      try clear p2
      try clear c3
      try clear c3b0
      try clear c3b1
      try clear c3b2
      obtain ⟨x13_1, rfl, HA, HK1, ⟨m1, rfl⟩⟩ := hrel
      cases gk with
      | zero => exact absurd HA.out (by simp [slices_Equal_int_int.l0])
      | succ k1 =>
        have H := HA.out
        clear HA
        simp only [slices_Equal_int_int.l0] at H
        by_cases c4 : x13_1 < (l0.length : Int)
        · rw [if_pos c4] at H
          have c4b0 : decide (x13_1 < (l0.length : Int)) = true := decide_eq_true c4
          clear c4
          by_cases c5 : 0 ≤ x13_1
          · rw [if_pos c5] at H
            have c5b0 : decide (0 ≤ x13_1) = true := decide_eq_true c5
            clear c5
            by_cases c6 : x13_1 < (l0.length : Int)
            · rw [if_pos c6] at H
              have c6b0 : decide (x13_1 < (l0.length : Int)) = true := decide_eq_true c6
              clear c6
              by_cases c7 : x13_1 < (l1.length : Int)
              · rw [if_pos c7] at H
                have c7b0 : decide (x13_1 < (l1.length : Int)) = true := decide_eq_true c7
                clear c7
                by_cases c8 : (rd l0 x13_1) = (rd l1 x13_1)
                · rw [if_pos c8] at H
                  have c8b0 : ((rd l0 x13_1) == (rd l1 x13_1)) = true := beq_iff_eq.mpr c8
                  have c8b1 : ((rd l0 x13_1) != (rd l1 x13_1)) = false := bne_eq_false_iff_eq.mpr c8
                  clear c8
                  have H' := Aside0.mk H
                  clear H
                  have p160 : 0 ≤ (x13_1 : Int) := of_decide_eq_true (by first | (with_reducible assumption) | assumption)
                  have q160 : x13_1 < (l0.length : Int) := of_decide_eq_true (by first | (with_reducible assumption) | assumption)
                  obtain ⟨ad160, e160, hx160_0⟩ := Kd.at_int HR0.out x13_1 p160 q160
                  cases e160
                  replace p160 := eq_true p160
                  replace q160 := eq_true q160
                  have p161 : 0 ≤ (x13_1 : Int) := of_decide_eq_true (by first | (with_reducible assumption) | assumption)
                  have q161 : x13_1 < (l1.length : Int) := of_decide_eq_true (by first | (with_reducible assumption) | assumption)
                  obtain ⟨ad161, e161, hx161_0⟩ := Kd.at_int HR1.out x13_1 p161 q161
                  cases e161
                  replace p161 := eq_true p161
                  replace q161 := eq_true q161
                  go_wp2
                  repeat (go_quiet (fail); try go_wp2)
                  go_roundg k1
                  case measure => have := HK1.out; omega
                  case rel => exact ⟨(wrap64 (x13_1 + 1)), (by first | rfl | (simp; done) | (simp [*]; done)), H', ⟨by have := HK1.out; omega⟩, by repeat (first | exact Drawn0.refl _ | apply Drawn0.step)⟩
                · rw [if_neg c8] at H
                  have c8b0 : ((rd l0 x13_1) == (rd l1 x13_1)) = false := beq_eq_false_iff_ne.mpr c8
                  have c8b1 : ((rd l0 x13_1) != (rd l1 x13_1)) = true := bne_iff_ne.mpr c8
                  obtain rfl := Option.some.inj H
                  have p160 : 0 ≤ (x13_1 : Int) := of_decide_eq_true (by first | (with_reducible assumption) | assumption)
                  have q160 : x13_1 < (l0.length : Int) := of_decide_eq_true (by first | (with_reducible assumption) | assumption)
                  obtain ⟨ad160, e160, hx160_0⟩ := Kd.at_int HR0.out x13_1 p160 q160
                  cases e160
                  replace p160 := eq_true p160
                  replace q160 := eq_true q160
                  have p161 : 0 ≤ (x13_1 : Int) := of_decide_eq_true (by first | (with_reducible assumption) | assumption)
                  have q161 : x13_1 < (l1.length : Int) := of_decide_eq_true (by first | (with_reducible assumption) | assumption)
                  obtain ⟨ad161, e161, hx161_0⟩ := Kd.at_int HR1.out x13_1 p161 q161
                  cases e161
                  replace p161 := eq_true p161
                  replace q161 := eq_true q161
                  go_wp2
                  repeat (go_quiet (fail); try go_wp2)
                  go_ret
                  exact ⟨by first | rfl | (simp; done) | (simp [*]; done), by repeat (first | exact Drawn0.refl _ | apply Drawn0.step)⟩
              · rw [if_neg c7] at H
                exact absurd H (by simp)
            · rw [if_neg c6] at H
              exact absurd H (by simp)
          · rw [if_neg c5] at H
            exact absurd H (by simp)
        · rw [if_neg c4] at H
          have c4b0 : decide (x13_1 < (l0.length : Int)) = false := decide_eq_false c4
          clear c4
          obtain rfl := Option.some.inj H
          go_wp2
          repeat (go_quiet (fail); try go_wp2)
          go_ret
          exact ⟨by first | rfl | (simp; done) | (simp [*]; done), by repeat (first | exact Drawn0.refl _ | apply Drawn0.step)⟩
  · rw [if_neg c3] at H
    have c3b0 : ((l0.length : Int) == (l1.length : Int)) = false := beq_eq_false_iff_ne.mpr c3
    have c3b1 : ((l0.length : Int) != (l1.length : Int)) = true := bne_iff_ne.mpr c3
    have c3b2 : (l0.length == l1.length) = false := by first | simpa using c3 | (simp at c3 ⊢; omega)
    obtain rfl := Option.some.inj H
    go_enter Tryz.func78, Tryz.ntmps78
    go_wp2
    repeat (go_quiet (fail); try go_wp2)
    go_ret
    exact ⟨by first | rfl | (simp; done) | (simp [*]; done), by repeat (first | exact Drawn0.refl _ | apply Drawn0.step)⟩
end Go.Proofs.YtdmifbffamckbaaGreatDoor.G
end
section
namespace Go.Proofs.YtdmifbffamckbaaGreatDoor.G
open Go.RowKit Go.Proofs.YtdmifbffamckbaaGreatDoorW.PrintWords Go.Proofs.YtdmifbffamckbaaGreatDoorW.PrintLast Go.Proofs.YtdmifbffamckbaaGreatDoorW.PrintMore
attribute [local go_sem] max2_int min2_int max_two min_two max_three min_three max_four min_four
set_option linter.unusedVariables false
set_option linter.unusedSimpArgs false
def stack_Same.f (k : Nat) (a0_0 : Int) (l0_1 : List Int) (a1_0 : Int) (l1_1 : List Int) : Option (Bool) := if a0_0 = a1_0 then ((slices_Equal_int_int.f k l0_1 l1_1).bind fun t164 => (some t164)) else (some false)
theorem stack_Same.mono : ∀ a0 a1 a2 a3 k, LeO (stack_Same.f k a0 a1 a2 a3) (stack_Same.f (k + 1) a0 a1 a2 a3) := by
  intro a0 a1 a2 a3 k
  unfold stack_Same.f
  repeat' first
      | (with_reducible exact slices_Equal_int_int.mono _ _ _)
      | (with_reducible exact LeO.refl _)
      | (with_reducible exact LeO.none _)
      | (with_reducible refine LeO.ite ?_ ?_)
      | (with_reducible refine LeO.bind ?_ (fun _ => ?_))
      | exact slices_Equal_int_int.mono _ _ _
      | exact LeO.none _
      | refine LeO.ite ?_ ?_
      | refine LeO.bind ?_ (fun _ => ?_)
set_option maxHeartbeats 8000000 in
set_option maxRecDepth 100000 in
theorem stack_Same.calls (k : Nat) (a0_0 : Int) (A0_1 : Option Addr) (c0_1 : Nat) (l0_1 : List Int) (a1_0 : Int) (A1_1 : Option Addr) (c1_1 : Nat) (l1_1 : List Int) (r : Bool) (w : World) (hr0_1 : Kd.C (Kd.int .i64) w A0_1 l0_1.length l0_1) (hc0_1 : l0_1.length ≤ c0_1) (hr1_1 : Kd.C (Kd.int .i64) w A1_1 l1_1.length l1_1) (hc1_1 : l1_1.length ≤ c1_1) (h : stack_Same.f k a0_0 l0_1 a1_0 l1_1 = some r) :
    Calls Tryz.prog 41 #[.agg #[.int .i64 a0_0, .slice A0_1 l0_1.length c0_1], .agg #[.int .i64 a1_0, .slice A1_1 l1_1.length c1_1]] w fun e w' => e = .returned (.bool r) ∧ Below w.heap.size w w' := by
  have hu42 := Tryz.underlying42
  have HR0_1 := Aside0.mk hr0_1
  have HC0_1 := Aside0.mk hc0_1
  clear hr0_1 hc0_1
  have HR1_1 := Aside0.mk hr1_1
  have HC1_1 := Aside0.mk hc1_1
  clear hr1_1 hc1_1
  have HB := Aside0.mk (Below.refl w.heap.size w)
  have H : (if a0_0 = a1_0 then ((slices_Equal_int_int.f k l0_1 l1_1).bind fun t164 => (some t164)) else (some false)) = some r := h
  clear h
  by_cases c3 : a0_0 = a1_0
  · rw [if_pos c3] at H
    have c3b0 : (a0_0 == a1_0) = true := beq_iff_eq.mpr c3
    have c3b1 : (a0_0 != a1_0) = false := bne_eq_false_iff_eq.mpr c3
    clear c3
    replace H := Option.bind_eq_some_iff.mp H
    obtain ⟨t164, A40, H⟩ := H
    replace H : (some t164) = some r := H
    have A4 := Aside0.mk A40
    clear A40
    obtain rfl := Option.some.inj H
    go_enter Tryz.func41, Tryz.ntmps41
    go_wp2_with (first | ((with_reducible refine gate_dst (N := 2) rfl ?_); refine box_event ?hg (N := 2) ?hd (cs := #[.int .i64 a0_0, .slice A0_1 l0_1.length c0_1]) (t := 42) ?hr ?_; (case hd => rfl); (case hg => rfl); (case hr => first | (go_simp; done) | (go_simp; rfl)); intro gb162 hg w5 hbox hb; have n0_ := Aside0.mk (below_step (by repeat (first | (with_reducible first | exact HB.out | apply below_alloc | apply pw_below_drewN | apply below_drew1) | exact HB.out)) hb); have n1_ := Aside0.mk (hbox); have n2_ := Aside0.mk ((by rw [hg]; exact (below_size (by repeat (first | (with_reducible first | exact HB.out | apply below_alloc | apply pw_below_drewN | apply below_drew1) | exact HB.out))) : w.heap.size ≤ gb162)); have n3_ := Aside0.mk ((by rw [hg]; exact (below_size (by repeat (first | (with_reducible first | exact HB.out | apply below_alloc | apply pw_below_drewN | apply below_drew1) | exact HB.out))) : w.heap.size ≤ gb162)); clear HB; have HB := n0_; have BK162 := n1_; have GW162 := n2_; have GE162 := n3_; clear n0_ n1_ n2_ n3_; clear hb hbox hg) | ((with_reducible refine gate_dst (N := 3) rfl ?_); refine box_event ?hg (N := 3) ?hd (cs := #[.int .i64 a1_0, .slice A1_1 l1_1.length c1_1]) (t := 42) ?hr ?_; (case hd => rfl); (case hg => rfl); (case hr => first | (go_simp; done) | (go_simp; rfl)); intro gb163 hg w6 hbox hb; have n0_ := Aside0.mk (blk_below (g := gb162) (o := .cells #[.int .i64 a0_0, .slice A0_1 l0_1.length c0_1] 42 (0, 0)) (by (with_reducible repeat (first | refine blk_drewN ?_ _ | refine blk_drew ?_ | refine blk_alloc ?_ _)); exact BK162.out) hb); have n1_ := Aside0.mk (below_step (by repeat (first | (with_reducible first | exact HB.out | apply below_alloc | apply pw_below_drewN | apply below_drew1 | refine below_set ?_ GE162.out) | exact HB.out)) hb); have n2_ := Aside0.mk (hbox); have n3_ := Aside0.mk ((by rw [hg]; exact (below_size (by repeat (first | (with_reducible first | exact HB.out | apply below_alloc | apply pw_below_drewN | apply below_drew1 | refine below_set ?_ GE162.out) | exact HB.out))) : w.heap.size ≤ gb163)); have n4_ := Aside0.mk ((by rw [hg]; exact (below_size (by repeat (first | (with_reducible first | exact HB.out | apply below_alloc | apply pw_below_drewN | apply below_drew1 | refine below_set ?_ GE162.out) | exact HB.out))) : w.heap.size ≤ gb163)); have n5_ := Aside0.mk ((by rw [hg]; exact Nat.ne_of_lt (blk_lt (g := gb162) (o := .cells #[.int .i64 a0_0, .slice A0_1 l0_1.length c0_1] 42 (0, 0)) (by (with_reducible repeat (first | refine blk_drewN ?_ _ | refine blk_drew ?_ | refine blk_alloc ?_ _)); exact BK162.out)) : gb162 ≠ gb163)); have n6_ := Aside0.mk ((by rw [hg]; exact Nat.ne_of_gt (blk_lt (g := gb162) (o := .cells #[.int .i64 a0_0, .slice A0_1 l0_1.length c0_1] 42 (0, 0)) (by (with_reducible repeat (first | refine blk_drewN ?_ _ | refine blk_drew ?_ | refine blk_alloc ?_ _)); exact BK162.out)) : gb163 ≠ gb162)); clear BK162; clear HB; have BK162 := n0_; have HB := n1_; have BK163 := n2_; have GW163 := n3_; have GE163 := n4_; have NB162_163 := n5_; have NB163_162 := n6_; clear n0_ n1_ n2_ n3_ n4_ n5_ n6_; clear hb hbox hg; have hnb7 := NB162_163.out; have hnc7 := NB163_162.out; have hcz8_0 : w6.cell? ⟨gb162, 0, none⟩ = some (.int .i64 a0_0) := (blk_cell BK162.out 0).trans rfl; have hcz8_1 : w6.cell? ⟨gb162, 1, none⟩ = some (.slice A0_1 l0_1.length c0_1) := (blk_cell BK162.out 1).trans rfl; have hfz8_0 := blk_frozen BK162.out 0; have hfz8_1 := blk_frozen BK162.out 1; have hcz9_0 : w6.cell? ⟨gb163, 0, none⟩ = some (.int .i64 a1_0) := (blk_cell BK163.out 0).trans rfl; have hcz9_1 : w6.cell? ⟨gb163, 1, none⟩ = some (.slice A1_1 l1_1.length c1_1) := (blk_cell BK163.out 1).trans rfl; have hfz9_0 := blk_frozen BK163.out 0; have hfz9_1 := blk_frozen BK163.out 1) | (go_at_call 78; (with_reducible refine (slices_Equal_int_int.calls k _ _ l0_1 _ _ l1_1 t164 _ ?side1 ?side2 ?side3 ?side4 A4.out).mono ?_); (case side1 => repeat (first | exact (Kd.C_below HR0_1.out HB.out) | (with_reducible refine Kd.C_alloc ?_ _) | (with_reducible refine Kd.C_drewN ?_ _) | (with_reducible refine Kd.C_drew ?_))); (case side2 => exact HC0_1.out); (case side3 => repeat (first | exact (Kd.C_below HR1_1.out HB.out) | (with_reducible refine Kd.C_alloc ?_ _) | (with_reducible refine Kd.C_drewN ?_ _) | (with_reducible refine Kd.C_drew ?_))); (case side4 => exact HC1_1.out); rintro e w' ⟨rfl, ⟨nd, rfl⟩⟩))
    go_ret
    exact ⟨by first | rfl | (simp [errW_none, errW_some] <;> rfl) | (simp [*, errW_none, errW_some] <;> rfl), by repeat (first | (with_reducible first | exact HB.out | apply below_alloc | apply pw_below_drewN | apply below_drew1 | refine below_set ?_ GE162.out | refine below_set ?_ GE163.out) | exact HB.out)⟩
  · rw [if_neg c3] at H
    have c3b0 : (a0_0 == a1_0) = false := beq_eq_false_iff_ne.mpr c3
    have c3b1 : (a0_0 != a1_0) = true := bne_iff_ne.mpr c3
    obtain rfl := Option.some.inj H
    go_enter Tryz.func41, Tryz.ntmps41
    go_wp2_with (first | ((with_reducible refine gate_dst (N := 2) rfl ?_); refine box_event ?hg (N := 2) ?hd (cs := #[.int .i64 a0_0, .slice A0_1 l0_1.length c0_1]) (t := 42) ?hr ?_; (case hd => rfl); (case hg => rfl); (case hr => first | (go_simp; done) | (go_simp; rfl)); intro gb162 hg w10 hbox hb; have n0_ := Aside0.mk (below_step (by repeat (first | (with_reducible first | exact HB.out | apply below_alloc | apply pw_below_drewN | apply below_drew1) | exact HB.out)) hb); have n1_ := Aside0.mk (hbox); have n2_ := Aside0.mk ((by rw [hg]; exact (below_size (by repeat (first | (with_reducible first | exact HB.out | apply below_alloc | apply pw_below_drewN | apply below_drew1) | exact HB.out))) : w.heap.size ≤ gb162)); have n3_ := Aside0.mk ((by rw [hg]; exact (below_size (by repeat (first | (with_reducible first | exact HB.out | apply below_alloc | apply pw_below_drewN | apply below_drew1) | exact HB.out))) : w.heap.size ≤ gb162)); clear HB; have HB := n0_; have BK162 := n1_; have GW162 := n2_; have GE162 := n3_; clear n0_ n1_ n2_ n3_; clear hb hbox hg) | ((with_reducible refine gate_dst (N := 3) rfl ?_); refine box_event ?hg (N := 3) ?hd (cs := #[.int .i64 a1_0, .slice A1_1 l1_1.length c1_1]) (t := 42) ?hr ?_; (case hd => rfl); (case hg => rfl); (case hr => first | (go_simp; done) | (go_simp; rfl)); intro gb163 hg w11 hbox hb; have n0_ := Aside0.mk (blk_below (g := gb162) (o := .cells #[.int .i64 a0_0, .slice A0_1 l0_1.length c0_1] 42 (0, 0)) (by (with_reducible repeat (first | refine blk_drewN ?_ _ | refine blk_drew ?_ | refine blk_alloc ?_ _)); exact BK162.out) hb); have n1_ := Aside0.mk (below_step (by repeat (first | (with_reducible first | exact HB.out | apply below_alloc | apply pw_below_drewN | apply below_drew1 | refine below_set ?_ GE162.out) | exact HB.out)) hb); have n2_ := Aside0.mk (hbox); have n3_ := Aside0.mk ((by rw [hg]; exact (below_size (by repeat (first | (with_reducible first | exact HB.out | apply below_alloc | apply pw_below_drewN | apply below_drew1 | refine below_set ?_ GE162.out) | exact HB.out))) : w.heap.size ≤ gb163)); have n4_ := Aside0.mk ((by rw [hg]; exact (below_size (by repeat (first | (with_reducible first | exact HB.out | apply below_alloc | apply pw_below_drewN | apply below_drew1 | refine below_set ?_ GE162.out) | exact HB.out))) : w.heap.size ≤ gb163)); have n5_ := Aside0.mk ((by rw [hg]; exact Nat.ne_of_lt (blk_lt (g := gb162) (o := .cells #[.int .i64 a0_0, .slice A0_1 l0_1.length c0_1] 42 (0, 0)) (by (with_reducible repeat (first | refine blk_drewN ?_ _ | refine blk_drew ?_ | refine blk_alloc ?_ _)); exact BK162.out)) : gb162 ≠ gb163)); have n6_ := Aside0.mk ((by rw [hg]; exact Nat.ne_of_gt (blk_lt (g := gb162) (o := .cells #[.int .i64 a0_0, .slice A0_1 l0_1.length c0_1] 42 (0, 0)) (by (with_reducible repeat (first | refine blk_drewN ?_ _ | refine blk_drew ?_ | refine blk_alloc ?_ _)); exact BK162.out)) : gb163 ≠ gb162)); clear BK162; clear HB; have BK162 := n0_; have HB := n1_; have BK163 := n2_; have GW163 := n3_; have GE163 := n4_; have NB162_163 := n5_; have NB163_162 := n6_; clear n0_ n1_ n2_ n3_ n4_ n5_ n6_; clear hb hbox hg; have hnb12 := NB162_163.out; have hnc12 := NB163_162.out; have hcz13_0 : w11.cell? ⟨gb162, 0, none⟩ = some (.int .i64 a0_0) := (blk_cell BK162.out 0).trans rfl; have hcz13_1 : w11.cell? ⟨gb162, 1, none⟩ = some (.slice A0_1 l0_1.length c0_1) := (blk_cell BK162.out 1).trans rfl; have hfz13_0 := blk_frozen BK162.out 0; have hfz13_1 := blk_frozen BK162.out 1; have hcz14_0 : w11.cell? ⟨gb163, 0, none⟩ = some (.int .i64 a1_0) := (blk_cell BK163.out 0).trans rfl; have hcz14_1 : w11.cell? ⟨gb163, 1, none⟩ = some (.slice A1_1 l1_1.length c1_1) := (blk_cell BK163.out 1).trans rfl; have hfz14_0 := blk_frozen BK163.out 0; have hfz14_1 := blk_frozen BK163.out 1))
    go_ret
    exact ⟨by first | rfl | (simp [errW_none, errW_some] <;> rfl) | (simp [*, errW_none, errW_some] <;> rfl), by repeat (first | (with_reducible first | exact HB.out | apply below_alloc | apply pw_below_drewN | apply below_drew1 | refine below_set ?_ GE162.out | refine below_set ?_ GE163.out) | exact HB.out)⟩
end Go.Proofs.YtdmifbffamckbaaGreatDoor.G
end
section
namespace Go.Proofs.YtdmifbffamckbaaGreatDoor
set_option linter.unusedVariables false
set_option linter.unusedSimpArgs false
open Go.RowKit Kit Go.Proofs.YtdmifbffamckbaaGreatDoorW.PrintWords
theorem Slc.mid {α : Type} : ∀ (a b c : List α), Slc (a ++ (b ++ c)) a.length b.length b
  | [], [], c => .nil
  | [], x :: b, c => .take (Slc.mid [] b c)
  | x :: a, b, c => .skip (Slc.mid a b c)
theorem eqI_l0 (a b : List Int) (hlen : a.length = b.length) (h63 : a.length ≤ 4611686018427387904) : ∀ (k j : Nat), a.length - j < k → j ≤ a.length → G.slices_Equal_int_int.l0 k a b (a.length : Int) (j : Int) = some (decide (a.drop j = b.drop j))
  | 0, j, h, _ => by omega
  | k + 1, j, h, hj => by
    unfold G.slices_Equal_int_int.l0
    by_cases hlt : j < a.length
    · have hb : j < b.length := by omega
      rw [if_pos (by omega), if_pos (by omega), if_pos (by omega), if_pos (by omega)]
      have ea : rd a (j : Int) = a[j] := by simp [rd, hlt]
      have eb : rd b (j : Int) = b[j] := by simp [rd, hb]
      rw [ea, eb, List.drop_eq_getElem_cons hlt, List.drop_eq_getElem_cons hb]
      by_cases he : a[j] = b[j]
      · rw [if_pos he, show wrap64 ((j : Int) + 1) = ((j + 1 : Nat) : Int) by unfold wrap64; omega, eqI_l0 a b hlen h63 k (j + 1) (by omega) (by omega)]
        congr 1
        rw [decide_eq_decide, he, List.cons.injEq]
        simp only [true_and]
      · rw [if_neg he]
        congr 1
        rw [eq_comm, decide_eq_false_iff_not]
        intro h
        injection h with h1 _
        exact he h1
    · have : j = a.length := by omega
      subst this
      rw [if_neg (by omega), List.drop_length, hlen, List.drop_length]
      rfl
theorem eqI_f (a b : List Int) (h63 : a.length ≤ 4611686018427387904) : G.slices_Equal_int_int.f (a.length + 1) a b = some (decide (a = b)) := by
  unfold G.slices_Equal_int_int.f
  by_cases hlen : a.length = b.length
  · rw [if_pos (by omega)]
    have := eqI_l0 a b hlen h63 (a.length + 1) 0 (by omega) (by omega)
    simpa using this
  · rw [if_neg (by omega)]
    congr 1
    rw [eq_comm, decide_eq_false_iff_not]
    intro h
    exact hlen (congrArg List.length h)
theorem stackSame_calls (x y : Int) (A B : Option Addr) (ca cb : Nat) (a b : List Int) (ha : a.length ≤ ca) (hb : b.length ≤ cb) (h63 : a.length ≤ 4611686018427387904) (w : World) (hA : Kd.C (Kd.int .i64) w A a.length a) (hB : Kd.C (Kd.int .i64) w B b.length b) :
    Calls Tryz.prog 41 #[.agg #[.int .i64 x, .slice A a.length ca], .agg #[.int .i64 y, .slice B b.length cb]] w fun e w' => e = .returned (.bool (decide (x = y) && decide (a = b))) ∧ Below w.heap.size w w' := by
  refine G.stack_Same.calls (a.length + 1) x A ca a y B cb b _ w hA ha hB hb ?_
  unfold G.stack_Same.f
  rw [eqI_f a b h63]
  by_cases h : x = y
  · rw [if_pos h, decide_eq_true h]
    rfl
  · rw [if_neg h, decide_eq_false h]
    rfl
end Go.Proofs.YtdmifbffamckbaaGreatDoor
end
section
namespace Go.Proofs.YtdmifbffamckbaaGreatDoor
set_option linter.unusedVariables false
set_option linter.unusedSimpArgs false
open Go.RowKit Kit Go.Proofs.YtdmifbffamckbaaGreatDoorW.PrintWords
def mdL (m : Md) : List Value := [.bool m.cursor, .bool m.keypad, .bool m.back, .bool m.focus, .bool m.paste, .bool m.lock, .bool m.line, .int .i64 m.mouse, .int .i64 m.coding, .int .i64 m.other]
def stS (m : Md) (s : List Int) (x : Int) (K : Value) : List Value := stM m (u8s s ++ [.int .i64 x, K])
theorem stS_len {m : Md} {s : List Int} {x : Int} {K : Value} (h : s.length = 12) : (stS m s x K).length = 24 := by
  unfold stS stM
  simp [h]
theorem slc_m (m : Md) (rest : List Value) : Slc (stM m rest) 0 10 (mdL m) := by
  unfold stM mdL
  repeat constructor
theorem slc_sv (m : Md) (s : List Int) (t : List Value) (h : s.length = 12) : Slc (stM m (u8s s ++ t)) 10 12 (u8s s) := by
  have := Slc.mid (mdL m) (u8s s) t
  rwa [show (u8s s).length = 12 by simp [h]] at this
theorem slc_st (m : Md) (s : List Int) (x y : Value) (h : s.length = 12) : Slc (stM m (u8s s ++ [x, y])) 22 2 [x, y] := by
  have := Slc.mid (mdL m ++ u8s s) [x, y] []
  rw [show (mdL m ++ u8s s).length = 22 by simp [mdL, h]] at this
  rw [List.append_nil, List.append_assoc] at this
  exact this
attribute [local irreducible] wpList Calls wpQuiet
set_option maxRecDepth 100000 in
set_option maxHeartbeats 8000000 in
theorem actSame_calls (m n : Md) (sa sb : List Int) (hsa : sa.length = 12) (hsb : sb.length = 12) (x y : Int) (A B : Option Addr) (ca cb : Nat) (a b : List Int) (ha : a.length ≤ ca) (hb : b.length ≤ cb) (h63 : a.length ≤ 4611686018427387904) (w : World) (hA : Kd.C (Kd.int .i64) w A a.length a) (hB : Kd.C (Kd.int .i64) w B b.length b) :
    Calls Tryz.prog 18 #[.agg (stS m sa x (.slice A a.length ca)).toArray, .agg (stS n sb y (.slice B b.length cb)).toArray] w fun e w' => e = .returned (.bool (decide (m = n) && (decide (sa = sb) && (decide (x = y) && decide (a = b))))) ∧ Below w.heap.size w w' := by
  have HO := Mine.start w
  have hs := fun W (hW : Below w.heap.size w W) => stackSame_calls x y A B ca cb a b ha hb h63 W (Kd.C_below hA hW) (Kd.C_below hB hW)
  have he1 := fun w => equal_modes m n w
  have he2 := fun w => equal_saved sa sb hsa hsb w
  obtain ⟨e1, h1⟩ : ∃ e, decide (m = n) = e := ⟨_, rfl⟩
  obtain ⟨e2, h2⟩ : ∃ e, decide (sa = sb) = e := ⟨_, rfl⟩
  obtain ⟨e3, h3⟩ : ∃ e, (decide (x = y) && decide (a = b)) = e := ⟨_, rfl⟩
  rw [h1] at he1 ⊢
  rw [h2] at he2 ⊢
  rw [h3] at hs ⊢
  have HE1 : Hid (∀ w, (Op.equal 23 (.agg (mdL m).toArray) (.agg (mdL n).toArray)).run Tryz.prog w = .ok e1 w) := Lib.hid he1
  have HE2 := Lib.hid he2
  have HS := Lib.hid hs
  clear he1 he2 hs h1 h2 h3 hA hB ha hb h63
  go_enter Tryz.func18, Tryz.ntmps18
  cases e1 <;> cases e2
  all_goals
    go_wp2_with (first
      | ((with_reducible refine gateAt (N := 2) rfl ?_); refine own_boxF (T := 44) (cs := stS m sa x (.slice A a.length ca)) HO rfl rfl rfl ?_; clear HO; intro g2 wN hgg2 HO; (try simp only [Act.put, List.setIfInBounds_toArray, List.set_cons_zero, List.set_cons_succ]))
      | ((with_reducible refine gateAt (N := 3) rfl ?_); refine own_boxF (T := 44) (cs := stS n sb y (.slice B b.length cb)) HO rfl rfl rfl ?_; clear HO; intro g3 wN hgg3 HO; (try simp only [Act.put, List.setIfInBounds_toArray, List.set_cons_zero, List.set_cons_succ]))
      | (go_at_call 41; refine (HS.out _ HO.below).mono ?_; rintro eN wN ⟨rfl, hbN⟩; have HON := HO.call hbN; clear HO hbN; have HO := HON; clear HON)
      | ((with_reducible refine gate ?_); (first
        | ((refine own_load (T := 23) HO rfl rfl rfl (by first | exact .head _ | exact .tail _ (.head _) | exact .tail _ (.tail _ (.head _))) Tryz.isAgg23 Tryz.sizeOf23 (slc_m m _) ?_); (try simp only [Act.put, List.setIfInBounds_toArray, List.set_cons_zero, List.set_cons_succ]))
        | ((refine own_load (T := 23) HO rfl rfl rfl (by first | exact .head _ | exact .tail _ (.head _) | exact .tail _ (.tail _ (.head _))) Tryz.isAgg23 Tryz.sizeOf23 (slc_m n _) ?_); (try simp only [Act.put, List.setIfInBounds_toArray, List.set_cons_zero, List.set_cons_succ]))
        | ((refine own_load (T := 41) HO rfl rfl rfl (by first | exact .head _ | exact .tail _ (.head _) | exact .tail _ (.tail _ (.head _))) Tryz.isAgg41 Tryz.sizeOf41 (slc_sv m sa _ hsa) ?_); (try simp only [Act.put, List.setIfInBounds_toArray, List.set_cons_zero, List.set_cons_succ]))
        | ((refine own_load (T := 41) HO rfl rfl rfl (by first | exact .head _ | exact .tail _ (.head _) | exact .tail _ (.tail _ (.head _))) Tryz.isAgg41 Tryz.sizeOf41 (slc_sv n sb _ hsb) ?_); (try simp only [Act.put, List.setIfInBounds_toArray, List.set_cons_zero, List.set_cons_succ]))
        | ((refine own_load (T := 42) HO rfl rfl rfl (by first | exact .head _ | exact .tail _ (.head _) | exact .tail _ (.tail _ (.head _))) Tryz.isAgg42 Tryz.sizeOf42 (slc_st m sa _ _ hsa) ?_); (try simp only [Act.put, List.setIfInBounds_toArray, List.set_cons_zero, List.set_cons_succ]))
        | ((refine own_load (T := 42) HO rfl rfl rfl (by first | exact .head _ | exact .tail _ (.head _) | exact .tail _ (.tail _ (.head _))) Tryz.isAgg42 Tryz.sizeOf42 (slc_st n sb _ _ hsb) ?_); (try simp only [Act.put, List.setIfInBounds_toArray, List.set_cons_zero, List.set_cons_succ]))
        | ((refine own_eql (t := 23) rfl rfl rfl rfl (by kernel_rfl) HE1.out ?_); (try simp only [Act.put, List.setIfInBounds_toArray, List.set_cons_zero, List.set_cons_succ]))
        | ((refine own_eql (t := 41) rfl rfl rfl rfl (by kernel_rfl) HE2.out ?_); (try simp only [Act.put, List.setIfInBounds_toArray, List.set_cons_zero, List.set_cons_succ])))))
    go_ret
    exact ⟨rfl, HO.below⟩
end Go.Proofs.YtdmifbffamckbaaGreatDoor
end
section
namespace Go.Proofs.YtdmifbffamckbaaGreatDoor
open Go.ChangeShapes Go.WideShapes Go.ChangeAt Go.RowKit Go.Proofs.YtdmifbffamckbaaGreatDoorW.PrintWords Kit
set_option linter.unusedVariables false
set_option maxRecDepth 100000
set_option linter.unusedSimpArgs false
theorem own : ownKnob Tryz.prog.godebug = none := by kernel_rfl
theorem laidOut : laidOutB Tryz.prog = true := by kernel_rfl
theorem cells_pow : Tryz.prog.cellsOf 213 = 20 := by kernel_rfl
theorem cells_u64 : Tryz.prog.cellsOf 202 = 1 := by kernel_rfl
theorem gPow : Tryz.prog.globalNamed "internal/strconv.uint64pow10" = some 1 := by kernel_rfl
theorem gPowType : (Tryz.prog.globals[1]?).map (·.type) = some 213 := by kernel_rfl
theorem tabOf {W : World} (h : laidMetH Tryz.prog Rows.actResetRow.laid W) : Tab W := by
  have h1 : laidMet Tryz.prog Rows.actResetRow.laid W := h
  exact Lib.tabIs_of_head gPow gPowType Tryz.underlying213 Tryz.underlying202 cells_u64 cells_pow h1.tail.tail
def cellsOf1 (d : DataW Unit) : List Value := match d with
  | .lit (.int k z) => [Value.int k z]
  | _ => []
def cellsOf2 (d : DataW Unit) : List Value := match d with
  | .lit (.int k z) => [Value.int k z]
  | .agg l => l.flatMap cellsOf1
  | _ => []
def cellsOfD (d : DataW Unit) : Array Value := match d with
  | .agg l => (l.flatMap cellsOf2).toArray
  | _ => #[]
def layCells (d : DataW Unit) : Obj → Obj
  | .cells _ t frozen => .cells (cellsOfD d) t frozen
  | o => o
noncomputable def laidWorld (os : Os) : World :=
  { World.holding Tryz.prog os ⟨#[], #[], []⟩ with heap := (((((World.holding Tryz.prog os ⟨#[], #[], []⟩).heap.modify 1 (layCells Rows.laid_internal_strconv_uint64pow10)).modify 4 (layCells Rows.laid_math_bits_deBruijn32tab)).modify 5 (layCells Rows.laid_math_bits_deBruijn64tab)).modify 3 (layCells Rows.laid_unicode_utf8_acceptRanges)).modify 2 (layCells Rows.laid_unicode_utf8_first) }
theorem open_stateX {H : Type} {enc : TypeId × Value → H} {W : World} {v : Value} {d : DataW H} {p : List MemPlace} {r : Reach} {b0 : Nat} (hv : Value.okWide Tryz.prog W r b0 30 v) (h : DataW.Trod enc Tryz.prog W 0 (fun _ => true) true 30 v d p) :
    ∃ (m : Md) (s : List Int) (x : Int) (A : Option Addr) (l : List Int) (c : Nat), v = .agg (stS m s x (.slice A l.length c)).toArray ∧ s.length = 12 ∧ (∀ z ∈ s, (Lit.int .u8 z).wf = true) ∧ (Lit.int .i64 x).wf = true ∧ l.length ≤ c ∧ (Kd.int .i64).C W A l.length l ∧ (∀ z ∈ l, (Lit.int .i64 z).wf = true) := by
  obtain ⟨cs, rfl, hsz⟩ := okWide_struct Tryz.underlying30 hv
  rw [show Tryz.prog.cellsOf 30 = 24 by kernel_rfl] at hsz
  obtain ⟨fuel, hf⟩ := h
  obtain ⟨xs, n, _, _, _, hlen, hx⟩ := DataW.trod_struct Tryz.underlying30 hf
  have hc_bool : Tryz.prog.cellsOf 4 = 1 := by kernel_rfl
  have hc_int : Tryz.prog.cellsOf 3 = 1 := by kernel_rfl
  have hc_uint8 : Tryz.prog.cellsOf 5 = 1 := by kernel_rfl
  have hc_slint : Tryz.prog.cellsOf 26 = 1 := by kernel_rfl
  have hm : Tryz.prog.cellsOf 23 = 10 := by kernel_rfl
  have hs : Tryz.prog.cellsOf 25 = 12 := by kernel_rfl
  have hk : Tryz.prog.cellsOf 28 = 2 := by kernel_rfl
  match cs, hsz with
  | ⟨[c0, c1, c2, c3, c4, c5, c6, c7, c8, c9, c10, c11, c12, c13, c14, c15, c16, c17, c18, c19, c20, c21, c22, c23]⟩, _ =>
    match xs, hlen with
    | [d0, d1, d2], _ =>
      have e0 := hx 0 _ rfl
      have e1 := hx 1 _ rfl
      have e2 := hx 2 _ rfl
      simp [Value.cells, hc_bool, hc_int, hc_uint8, hc_slint, hm, hs, hk] at e0 e1 e2
      obtain ⟨xm, nm, _, _, _, hlm, hxm⟩ := DataW.trod_struct Tryz.underlying23 e0
      match xm, hlm with
      | [m0, m1, m2, m3, m4, m5, m6, m7, m8, m9], _ =>
      have em0 := hxm 0 _ rfl
      have em1 := hxm 1 _ rfl
      have em2 := hxm 2 _ rfl
      have em3 := hxm 3 _ rfl
      have em4 := hxm 4 _ rfl
      have em5 := hxm 5 _ rfl
      have em6 := hxm 6 _ rfl
      have em7 := hxm 7 _ rfl
      have em8 := hxm 8 _ rfl
      have em9 := hxm 9 _ rfl
      simp [Value.cells, hc_bool, hc_int, hc_uint8, hc_slint, hm, hs, hk] at em0 em1 em2 em3 em4 em5 em6 em7 em8 em9
      obtain ⟨y0, z0, _⟩ := DataW.trod_bool Tryz.underlying4 em0
      obtain ⟨y1, z1, _⟩ := DataW.trod_bool Tryz.underlying4 em1
      obtain ⟨y2, z2, _⟩ := DataW.trod_bool Tryz.underlying4 em2
      obtain ⟨y3, z3, _⟩ := DataW.trod_bool Tryz.underlying4 em3
      obtain ⟨y4, z4, _⟩ := DataW.trod_bool Tryz.underlying4 em4
      obtain ⟨y5, z5, _⟩ := DataW.trod_bool Tryz.underlying4 em5
      obtain ⟨y6, z6, _⟩ := DataW.trod_bool Tryz.underlying4 em6
      obtain ⟨y7, z7, _⟩ := DataW.trod_int Tryz.underlying3 em7
      obtain ⟨y8, z8, _⟩ := DataW.trod_int Tryz.underlying3 em8
      obtain ⟨y9, z9, _⟩ := DataW.trod_int Tryz.underlying3 em9
      obtain ⟨xv, nv, _, _, _, hlv, hxv⟩ := DataW.trod_array Tryz.underlying25 e1
      match xv, hlv with
      | [s0, s1, s2, s3, s4, s5, s6, s7, s8, s9, s10, s11], _ =>
      have es0 := hxv 0 (by omega)
      have es1 := hxv 1 (by omega)
      have es2 := hxv 2 (by omega)
      have es3 := hxv 3 (by omega)
      have es4 := hxv 4 (by omega)
      have es5 := hxv 5 (by omega)
      have es6 := hxv 6 (by omega)
      have es7 := hxv 7 (by omega)
      have es8 := hxv 8 (by omega)
      have es9 := hxv 9 (by omega)
      have es10 := hxv 10 (by omega)
      have es11 := hxv 11 (by omega)
      simp [Value.cells, hc_bool, hc_int, hc_uint8, hc_slint, hm, hs, hk] at es0 es1 es2 es3 es4 es5 es6 es7 es8 es9 es10 es11
      obtain ⟨u0, t0, _, wu0⟩ := DataW.trod_int Tryz.underlying5 es0
      obtain ⟨u1, t1, _, wu1⟩ := DataW.trod_int Tryz.underlying5 es1
      obtain ⟨u2, t2, _, wu2⟩ := DataW.trod_int Tryz.underlying5 es2
      obtain ⟨u3, t3, _, wu3⟩ := DataW.trod_int Tryz.underlying5 es3
      obtain ⟨u4, t4, _, wu4⟩ := DataW.trod_int Tryz.underlying5 es4
      obtain ⟨u5, t5, _, wu5⟩ := DataW.trod_int Tryz.underlying5 es5
      obtain ⟨u6, t6, _, wu6⟩ := DataW.trod_int Tryz.underlying5 es6
      obtain ⟨u7, t7, _, wu7⟩ := DataW.trod_int Tryz.underlying5 es7
      obtain ⟨u8, t8, _, wu8⟩ := DataW.trod_int Tryz.underlying5 es8
      obtain ⟨u9, t9, _, wu9⟩ := DataW.trod_int Tryz.underlying5 es9
      obtain ⟨u10, t10, _, wu10⟩ := DataW.trod_int Tryz.underlying5 es10
      obtain ⟨u11, t11, _, wu11⟩ := DataW.trod_int Tryz.underlying5 es11
      obtain ⟨xk, nk, _, _, _, hlk, hxk⟩ := DataW.trod_struct Tryz.underlying28 e2
      match xk, hlk with
      | [k0, k1], _ =>
      have ek0 := hxk 0 _ rfl
      have ek1 := hxk 1 _ rfl
      simp [Value.cells, hc_bool, hc_int, hc_uint8, hc_slint, hm, hs, hk] at ek0 ek1
      obtain ⟨x, tx, _, wx⟩ := DataW.trod_int Tryz.underlying3 ek0
      have hcE : Tryz.prog.cellsOf 3 = 1 := hc_int
      simp at tx z0 z1 z2 z3 z4 z5 z6 z7 z8 z9 t0 t1 t2 t3 t4 t5 t6 t7 t8 t9 t10 t11
      subst tx z0 z1 z2 z3 z4 z5 z6 z7 z8 z9 t0 t1 t2 t3 t4 t5 t6 t7 t8 t9 t10 t11
      have hwu : ∀ z ∈ [u0, u1, u2, u3, u4, u5, u6, u7, u8, u9, u10, u11], (Lit.int .u8 z).wf = true := by simp [wu0, wu1, wu2, wu3, wu4, wu5, wu6, wu7, wu8, wu9, wu10, wu11]
      rcases open_ints Tryz.underlying26 Tryz.underlying3 hcE ek1 with ⟨hcs, hx1⟩ | ⟨a, len', cap', zs, hcs, _, hl, hmx, hz, hx1, hcell, hwz⟩
      · simp at hcs
        subst hcs
        exact ⟨⟨y0, y1, y2, y3, y4, y5, y6, y7, y8, y9⟩, [u0, u1, u2, u3, u4, u5, u6, u7, u8, u9, u10, u11], x, none, [], 0, rfl, rfl, hwu, wx, Nat.le_refl _, ⟨rfl, by simp, fun h => by simp at h⟩, fun z hz => by cases hz⟩
      · simp at hcs
        subst hcs
        simp only [if_true] at hz
        have hlen2 : (zs.take len').length = len' := by rw [List.length_take]; omega
        refine ⟨⟨y0, y1, y2, y3, y4, y5, y6, y7, y8, y9⟩, [u0, u1, u2, u3, u4, u5, u6, u7, u8, u9, u10, u11], x, some a, zs.take len', cap', by rw [hlen2]; rfl, rfl, hwu, wx, by rw [hlen2]; exact hl, ?_, fun z hz => hwz z (List.mem_of_mem_take hz)⟩
        refine Kd.C_of_reads (d := (0 : Int)) ⟨rfl, by rw [hlen2]; unfold maxLen at hmx; omega, fun _ => ⟨a, rfl, fun j hj => ?_⟩⟩
        rw [hlen2] at hj
        have hj2 : j < zs.length := by omega
        rw [hcell j hj2]
        simp [List.getD, hj, hj2]
end Go.Proofs.YtdmifbffamckbaaGreatDoor
end
section
namespace Go.Proofs.YtdmifbffamckbaaGreatDoor
set_option linter.unusedVariables false
set_option linter.unusedSimpArgs false
open Go.RowKit Kit Go.Proofs.YtdmifbffamckbaaGreatDoorW.PrintWords
theorem twelve {l : List Int} (h : l.length = 12) : ∃ s0 s1 s2 s3 s4 s5 s6 s7 s8 s9 s10 s11, l = [s0, s1, s2, s3, s4, s5, s6, s7, s8, s9, s10, s11] := by
  match l, h with
  | [s0, s1, s2, s3, s4, s5, s6, s7, s8, s9, s10, s11], _ => exact ⟨s0, s1, s2, s3, s4, s5, s6, s7, s8, s9, s10, s11, rfl⟩
attribute [local irreducible] wpList Calls wpQuiet
set_option maxRecDepth 100000 in
set_option maxHeartbeats 8000000 in
theorem made_explicit (m : Md) (s0 s1 s2 s3 s4 s5 s6 s7 s8 s9 s10 s11 x : Int) (p : Option Addr) (n c : Nat) (w : World) : Calls Tryz.prog 13 #[.agg #[.bool m.cursor, .bool m.keypad, .bool m.back, .bool m.focus, .bool m.paste, .bool m.lock, .bool m.line, .int .i64 m.mouse, .int .i64 m.coding, .int .i64 m.other, .int .u8 s0, .int .u8 s1, .int .u8 s2, .int .u8 s3, .int .u8 s4, .int .u8 s5, .int .u8 s6, .int .u8 s7, .int .u8 s8, .int .u8 s9, .int .u8 s10, .int .u8 s11, .int .i64 x, .slice p n c]] w fun e w' => e = .returned (.agg #[.bool m.cursor, .bool m.keypad, .bool m.back, .bool m.focus, .bool m.paste, .bool m.lock, .bool m.line, .int .i64 m.mouse, .int .i64 m.coding, .int .i64 m.other, .int .u8 s0, .int .u8 s1, .int .u8 s2, .int .u8 s3, .int .u8 s4, .int .u8 s5, .int .u8 s6, .int .u8 s7, .int .u8 s8, .int .u8 s9, .int .u8 s10, .int .u8 s11, .int .i64 x, .slice p n c]) ∧ Below w.heap.size w w' := by
  have HO := Mine.start w
  go_enter Tryz.func13, Tryz.ntmps13
  go_wp2_with (first
    | ((with_reducible refine gateAt (N := 1) rfl ?_); refine own_boxF (T := 30) (cs := [.bool m.cursor, .bool m.keypad, .bool m.back, .bool m.focus, .bool m.paste, .bool m.lock, .bool m.line, .int .i64 m.mouse, .int .i64 m.coding, .int .i64 m.other, .int .u8 s0, .int .u8 s1, .int .u8 s2, .int .u8 s3, .int .u8 s4, .int .u8 s5, .int .u8 s6, .int .u8 s7, .int .u8 s8, .int .u8 s9, .int .u8 s10, .int .u8 s11, .int .i64 x, .slice p n c]) HO rfl rfl rfl ?_; clear HO; intro g1 wN hgg1 HO; (try simp only [Act.put, List.setIfInBounds_toArray, List.set_cons_zero, List.set_cons_succ]))
    | (first
      | ((with_reducible refine gate ?_); (first
      | ((with_reducible refine gateAt (N := 2) rfl ?_); refine own_allocF (T := 44) HO rfl rfl Tryz.zeroValue44 rfl ?_; clear HO; intro gR wN hggR HO; (try simp only [Act.put, List.setIfInBounds_toArray, List.set_cons_zero, List.set_cons_succ]))
      | ((refine own_load (T := 23) HO rfl rfl rfl (by first | exact .head _ | exact .tail _ (.head _) | exact .tail _ (.tail _ (.head _))) Tryz.isAgg23 Tryz.sizeOf23 (by repeat constructor) ?_); (try simp only [Act.put, List.setIfInBounds_toArray, List.set_cons_zero, List.set_cons_succ]))
      | ((refine own_load (T := 25) HO rfl rfl rfl (by first | exact .head _ | exact .tail _ (.head _) | exact .tail _ (.tail _ (.head _))) Tryz.isAgg25 Tryz.sizeOf25 (by repeat constructor) ?_); (try simp only [Act.put, List.setIfInBounds_toArray, List.set_cons_zero, List.set_cons_succ]))
      | ((refine own_load (T := 44) HO rfl rfl rfl (by first | exact .head _ | exact .tail _ (.head _) | exact .tail _ (.tail _ (.head _))) Tryz.isAgg44 Tryz.sizeOf44 (by repeat constructor) ?_); (try simp only [Act.put, List.setIfInBounds_toArray, List.set_cons_zero, List.set_cons_succ]))
      | ((refine own_load1 (T := 3) HO rfl rfl rfl (by first | exact .head _ | exact .tail _ (.head _) | exact .tail _ (.tail _ (.head _))) Tryz.isAgg3 rfl ?_); (try simp only [Act.put, List.setIfInBounds_toArray, List.set_cons_zero, List.set_cons_succ]))
      | ((refine own_load1 (T := 26) HO rfl rfl rfl (by first | exact .head _ | exact .tail _ (.head _) | exact .tail _ (.tail _ (.head _))) Tryz.isAgg26 rfl ?_); (try simp only [Act.put, List.setIfInBounds_toArray, List.set_cons_zero, List.set_cons_succ]))
      | ((refine own_store1 (T := 3) HO rfl rfl rfl (by first | exact .const | exact .tmp rfl | exact .func) (by rfl) (by first | exact .here | exact .there (.here) | exact .there (.there (.here))) Tryz.sizeOf3 (by repeat constructor) (by rfl) ?_); clear HO; intro wN HO; (try simp only [Act.put, List.setIfInBounds_toArray, List.set_cons_zero, List.set_cons_succ]))
      | ((refine own_store1 (T := 26) HO rfl rfl rfl (by first | exact .const | exact .tmp rfl | exact .func) (by rfl) (by first | exact .here | exact .there (.here) | exact .there (.there (.here))) Tryz.sizeOf26 (by repeat constructor) (by rfl) ?_); clear HO; intro wN HO; (try simp only [Act.put, List.setIfInBounds_toArray, List.set_cons_zero, List.set_cons_succ]))
      | ((refine own_store (T := 23) HO rfl rfl rfl rfl (by first | exact .here | exact .there (.here) | exact .there (.there (.here))) Tryz.sizeOf23 (by repeat constructor) rfl ?_); clear HO; intro wN HO; (try simp only [Act.put, List.setIfInBounds_toArray, List.set_cons_zero, List.set_cons_succ]))
      | ((refine own_store (T := 25) HO rfl rfl rfl rfl (by first | exact .here | exact .there (.here) | exact .there (.there (.here))) Tryz.sizeOf25 (by repeat constructor) rfl ?_); clear HO; intro wN HO; (try simp only [Act.put, List.setIfInBounds_toArray, List.set_cons_zero, List.set_cons_succ]))
      | ((refine own_store (T := 44) HO rfl rfl rfl rfl (by first | exact .here | exact .there (.here) | exact .there (.there (.here))) Tryz.sizeOf44 (by repeat constructor) rfl ?_); clear HO; intro wN HO; (try simp only [Act.put, List.setIfInBounds_toArray, List.set_cons_zero, List.set_cons_succ]))))))
  refine bodyPost_ret (own_results1 HO Tryz.results13 rfl (.head _) Tryz.isAgg44 Tryz.sizeOf44 (by repeat constructor)) rfl ⟨rfl, HO.below⟩
theorem made_calls (m : Md) (s : List Int) (hs : s.length = 12) (x : Int) (p : Option Addr) (n c : Nat) (w : World) : Calls Tryz.prog 13 #[.agg (stS m s x (.slice p n c)).toArray] w fun e w' => e = .returned (.agg (stS m s x (.slice p n c)).toArray) ∧ Below w.heap.size w w' := by
  obtain ⟨s0, s1, s2, s3, s4, s5, s6, s7, s8, s9, s10, s11, rfl⟩ := twelve hs
  exact made_explicit m s0 s1 s2 s3 s4 s5 s6 s7 s8 s9 s10 s11 x p n c w
end Go.Proofs.YtdmifbffamckbaaGreatDoor
end
section
namespace Go.Proofs.YtdmifbffamckbaaGreatDoor.G
open Go.RowKit Go.Proofs.YtdmifbffamckbaaGreatDoorW.PrintWords Go.Proofs.YtdmifbffamckbaaGreatDoorW.PrintLast Go.Proofs.YtdmifbffamckbaaGreatDoorW.PrintMore
attribute [local go_sem] max2_int min2_int max_two min_two max_three min_three max_four min_four
set_option linter.unusedVariables false
set_option linter.unusedSimpArgs false
def clavierref02_Ints.l0 : Nat → List Int → List Int → Int → Option (Bool)
  | 0, _, _, _ => none
  | k + 1, x0, x1, x5 => if x5 < (x0.length : Int) then (if 0 ≤ x5 then (if x5 < (x1.length : Int) then (if (rd x0 x5) = (rd x1 x5) then (clavierref02_Ints.l0 k x0 x1 (wrap64 (x5 + 1))) else (some false)) else (none)) else (none)) else (some true)
def clavierref02_Ints.f (k : Nat) (l0 : List Int) (l1 : List Int) : Option (Bool) := if (l0.length : Int) = (l1.length : Int) then (clavierref02_Ints.l0 k l0 l1 0) else (some false)
theorem clavierref02_Ints.mono_l : ∀ k, (∀ y0 y1 y2, LeO (clavierref02_Ints.l0 k y0 y1 y2) (clavierref02_Ints.l0 (k + 1) y0 y1 y2))
  | 0 => fun _ _ _ r h => by simp [clavierref02_Ints.l0] at h
  | k + 1 => by
    have ih0 := clavierref02_Ints.mono_l k
    · intro y0 y1 y2
      unfold clavierref02_Ints.l0
      repeat' first
      | (with_reducible exact ih0 _ _ _)
      | (with_reducible exact LeO.refl _)
      | (with_reducible exact LeO.none _)
      | (with_reducible refine LeO.ite ?_ ?_)
      | (with_reducible refine LeO.bind ?_ (fun _ => ?_))
      | exact ih0 _ _ _
      | exact LeO.none _
      | refine LeO.ite ?_ ?_
      | refine LeO.bind ?_ (fun _ => ?_)
theorem clavierref02_Ints.mono : ∀ a0 a1 k, LeO (clavierref02_Ints.f k a0 a1) (clavierref02_Ints.f (k + 1) a0 a1) := by
  intro a0 a1 k
  have ih0 := clavierref02_Ints.mono_l k
  unfold clavierref02_Ints.f
  repeat' first
      | (with_reducible exact ih0 _ _ _)
      | (with_reducible exact LeO.refl _)
      | (with_reducible exact LeO.none _)
      | (with_reducible refine LeO.ite ?_ ?_)
      | (with_reducible refine LeO.bind ?_ (fun _ => ?_))
      | exact ih0 _ _ _
      | exact LeO.none _
      | refine LeO.ite ?_ ?_
      | refine LeO.bind ?_ (fun _ => ?_)
set_option maxHeartbeats 8000000 in
set_option maxRecDepth 100000 in
theorem clavierref02_Ints.calls (k : Nat) (A0 : Option Addr) (c0 : Nat) (l0 : List Int) (A1 : Option Addr) (c1 : Nat) (l1 : List Int) (r : Bool) (w : World) (hr0 : Kd.C (Kd.int .i64) w A0 l0.length l0) (hc0 : l0.length ≤ c0) (hr1 : Kd.C (Kd.int .i64) w A1 l1.length l1) (hc1 : l1.length ≤ c1) (h : clavierref02_Ints.f k l0 l1 = some r) :
    Calls Tryz.prog 77 #[.slice A0 l0.length c0, .slice A1 l1.length c1] w fun e w' => e = .returned (.bool r) ∧ Drawn0 w w' := by
  have HR0 := Aside0.mk hr0
  have HC0 := Aside0.mk hc0
  clear hr0 hc0
  have HR1 := Aside0.mk hr1
  have HC1 := Aside0.mk hc1
  clear hr1 hc1
  have H : (if (l0.length : Int) = (l1.length : Int) then (clavierref02_Ints.l0 k l0 l1 0) else (some false)) = some r := h
  clear h
  by_cases c3 : (l0.length : Int) = (l1.length : Int)
  · rw [if_pos c3] at H
    have c3b0 : ((l0.length : Int) == (l1.length : Int)) = true := beq_iff_eq.mpr c3
    have c3b1 : ((l0.length : Int) != (l1.length : Int)) = false := bne_eq_false_iff_eq.mpr c3
    have c3b2 : (l0.length == l1.length) = true := by first | simpa using c3 | (simp at c3 ⊢; omega)
    clear c3
    have H' := Aside0.mk H
    clear H
    go_enter Tryz.func77, Tryz.ntmps77
    go_wp2
    repeat (go_quiet (fail); try go_wp2)
    go_loopg [5] k (fun kq v5 w' => ∃ (x5_1 : Int), v5 = .int .i64 x5_1 ∧ Aside0 (clavierref02_Ints.l0 kq l0 l1 x5_1 = some r) ∧ Aside0 (kq ≤ k) ∧ Drawn0 w w')
    case atStart => exact ⟨(0), (by first | rfl | (simp; done) | (simp [*]; done)), H', ⟨Nat.le_refl _⟩, by repeat (first | exact Drawn0.refl _ | apply Drawn0.step)⟩
    case round =>
      clear H'
      try clear c1
      try clear p2
      try clear c3
      try clear c3b0
      try clear c3b1
      try clear c3b2
      obtain ⟨x5_1, rfl, HA, HK1, ⟨m1, rfl⟩⟩ := hrel
      cases gk with
      | zero => exact absurd HA.out (by simp [clavierref02_Ints.l0])
      | succ k1 =>
        have H := HA.out
        clear HA
        simp only [clavierref02_Ints.l0] at H
        by_cases c4 : x5_1 < (l0.length : Int)
        · rw [if_pos c4] at H
          have c4b0 : decide (x5_1 < (l0.length : Int)) = true := decide_eq_true c4
          clear c4
          by_cases c5 : 0 ≤ x5_1
          · rw [if_pos c5] at H
            have c5b0 : decide (0 ≤ x5_1) = true := decide_eq_true c5
            clear c5
            by_cases c6 : x5_1 < (l1.length : Int)
            · rw [if_pos c6] at H
              have c6b0 : decide (x5_1 < (l1.length : Int)) = true := decide_eq_true c6
              clear c6
              by_cases c7 : (rd l0 x5_1) = (rd l1 x5_1)
              · rw [if_pos c7] at H
                have c7b0 : ((rd l0 x5_1) == (rd l1 x5_1)) = true := beq_iff_eq.mpr c7
                have c7b1 : ((rd l0 x5_1) != (rd l1 x5_1)) = false := bne_eq_false_iff_eq.mpr c7
                clear c7
                have H' := Aside0.mk H
                clear H
                have p165 : 0 ≤ (x5_1 : Int) := of_decide_eq_true (by first | (with_reducible assumption) | assumption)
                have q165 : x5_1 < (l0.length : Int) := of_decide_eq_true (by first | (with_reducible assumption) | assumption)
                obtain ⟨ad165, e165, hx165_0⟩ := Kd.at_int HR0.out x5_1 p165 q165
                cases e165
                replace p165 := eq_true p165
                replace q165 := eq_true q165
                have p166 : 0 ≤ (x5_1 : Int) := of_decide_eq_true (by first | (with_reducible assumption) | assumption)
                have q166 : x5_1 < (l1.length : Int) := of_decide_eq_true (by first | (with_reducible assumption) | assumption)
                obtain ⟨ad166, e166, hx166_0⟩ := Kd.at_int HR1.out x5_1 p166 q166
                cases e166
                replace p166 := eq_true p166
                replace q166 := eq_true q166
                go_wp2
                repeat (go_quiet (fail); try go_wp2)
                go_roundg k1
                case measure => have := HK1.out; omega
                case rel => exact ⟨(wrap64 (x5_1 + 1)), (by first | rfl | (simp; done) | (simp [*]; done)), H', ⟨by have := HK1.out; omega⟩, by repeat (first | exact Drawn0.refl _ | apply Drawn0.step)⟩
              · rw [if_neg c7] at H
                have c7b0 : ((rd l0 x5_1) == (rd l1 x5_1)) = false := beq_eq_false_iff_ne.mpr c7
                have c7b1 : ((rd l0 x5_1) != (rd l1 x5_1)) = true := bne_iff_ne.mpr c7
                obtain rfl := Option.some.inj H
                have p165 : 0 ≤ (x5_1 : Int) := of_decide_eq_true (by first | (with_reducible assumption) | assumption)
                have q165 : x5_1 < (l0.length : Int) := of_decide_eq_true (by first | (with_reducible assumption) | assumption)
                obtain ⟨ad165, e165, hx165_0⟩ := Kd.at_int HR0.out x5_1 p165 q165
                cases e165
                replace p165 := eq_true p165
                replace q165 := eq_true q165
                have p166 : 0 ≤ (x5_1 : Int) := of_decide_eq_true (by first | (with_reducible assumption) | assumption)
                have q166 : x5_1 < (l1.length : Int) := of_decide_eq_true (by first | (with_reducible assumption) | assumption)
                obtain ⟨ad166, e166, hx166_0⟩ := Kd.at_int HR1.out x5_1 p166 q166
                cases e166
                replace p166 := eq_true p166
                replace q166 := eq_true q166
                go_wp2
                repeat (go_quiet (fail); try go_wp2)
                go_ret
                exact ⟨by first | rfl | (simp; done) | (simp [*]; done), by repeat (first | exact Drawn0.refl _ | apply Drawn0.step)⟩
            · rw [if_neg c6] at H
              exact absurd H (by simp)
          · rw [if_neg c5] at H
            exact absurd H (by simp)
        · rw [if_neg c4] at H
          have c4b0 : decide (x5_1 < (l0.length : Int)) = false := decide_eq_false c4
          clear c4
          obtain rfl := Option.some.inj H
          go_wp2
          repeat (go_quiet (fail); try go_wp2)
          go_ret
          exact ⟨by first | rfl | (simp; done) | (simp [*]; done), by repeat (first | exact Drawn0.refl _ | apply Drawn0.step)⟩
  · rw [if_neg c3] at H
    have c3b0 : ((l0.length : Int) == (l1.length : Int)) = false := beq_eq_false_iff_ne.mpr c3
    have c3b1 : ((l0.length : Int) != (l1.length : Int)) = true := bne_iff_ne.mpr c3
    have c3b2 : (l0.length == l1.length) = false := by first | simpa using c3 | (simp at c3 ⊢; omega)
    obtain rfl := Option.some.inj H
    go_enter Tryz.func77, Tryz.ntmps77
    go_wp2
    repeat (go_quiet (fail); try go_wp2)
    go_ret
    exact ⟨by first | rfl | (simp; done) | (simp [*]; done), by repeat (first | exact Drawn0.refl _ | apply Drawn0.step)⟩
end Go.Proofs.YtdmifbffamckbaaGreatDoor.G
end
section
namespace Go.Proofs.YtdmifbffamckbaaGreatDoor.G
open Go.RowKit Go.Proofs.YtdmifbffamckbaaGreatDoorW.PrintWords Go.Proofs.YtdmifbffamckbaaGreatDoorW.PrintLast Go.Proofs.YtdmifbffamckbaaGreatDoorW.PrintMore
attribute [local go_sem] max2_int min2_int max_two min_two max_three min_three max_four min_four
set_option linter.unusedVariables false
set_option linter.unusedSimpArgs false
def clavierref08_Same.f (k : Nat) (a0_0 : Int) (l0_1 : List Int) (a1_0 : Int) (l1_1 : List Int) : Option (Bool) := if a0_0 = a1_0 then ((clavierref02_Ints.f k l0_1 l1_1).bind fun t169 => (some t169)) else (some false)
theorem clavierref08_Same.mono : ∀ a0 a1 a2 a3 k, LeO (clavierref08_Same.f k a0 a1 a2 a3) (clavierref08_Same.f (k + 1) a0 a1 a2 a3) := by
  intro a0 a1 a2 a3 k
  unfold clavierref08_Same.f
  repeat' first
      | (with_reducible exact clavierref02_Ints.mono _ _ _)
      | (with_reducible exact LeO.refl _)
      | (with_reducible exact LeO.none _)
      | (with_reducible refine LeO.ite ?_ ?_)
      | (with_reducible refine LeO.bind ?_ (fun _ => ?_))
      | exact clavierref02_Ints.mono _ _ _
      | exact LeO.none _
      | refine LeO.ite ?_ ?_
      | refine LeO.bind ?_ (fun _ => ?_)
set_option maxHeartbeats 8000000 in
set_option maxRecDepth 100000 in
theorem clavierref08_Same.calls (k : Nat) (a0_0 : Int) (A0_1 : Option Addr) (c0_1 : Nat) (l0_1 : List Int) (a1_0 : Int) (A1_1 : Option Addr) (c1_1 : Nat) (l1_1 : List Int) (r : Bool) (w : World) (hr0_1 : Kd.C (Kd.int .i64) w A0_1 l0_1.length l0_1) (hc0_1 : l0_1.length ≤ c0_1) (hr1_1 : Kd.C (Kd.int .i64) w A1_1 l1_1.length l1_1) (hc1_1 : l1_1.length ≤ c1_1) (h : clavierref08_Same.f k a0_0 l0_1 a1_0 l1_1 = some r) :
    Calls Tryz.prog 35 #[.agg #[.int .i64 a0_0, .slice A0_1 l0_1.length c0_1], .agg #[.int .i64 a1_0, .slice A1_1 l1_1.length c1_1]] w fun e w' => e = .returned (.bool r) ∧ Below w.heap.size w w' := by
  have hu28 := Tryz.underlying28
  have HR0_1 := Aside0.mk hr0_1
  have HC0_1 := Aside0.mk hc0_1
  clear hr0_1 hc0_1
  have HR1_1 := Aside0.mk hr1_1
  have HC1_1 := Aside0.mk hc1_1
  clear hr1_1 hc1_1
  have HB := Aside0.mk (Below.refl w.heap.size w)
  have H : (if a0_0 = a1_0 then ((clavierref02_Ints.f k l0_1 l1_1).bind fun t169 => (some t169)) else (some false)) = some r := h
  clear h
  by_cases c3 : a0_0 = a1_0
  · rw [if_pos c3] at H
    have c3b0 : (a0_0 == a1_0) = true := beq_iff_eq.mpr c3
    have c3b1 : (a0_0 != a1_0) = false := bne_eq_false_iff_eq.mpr c3
    clear c3
    replace H := Option.bind_eq_some_iff.mp H
    obtain ⟨t169, A40, H⟩ := H
    replace H : (some t169) = some r := H
    have A4 := Aside0.mk A40
    clear A40
    obtain rfl := Option.some.inj H
    go_enter Tryz.func35, Tryz.ntmps35
    go_wp2_with (first | ((with_reducible refine gate_dst (N := 2) rfl ?_); refine box_event ?hg (N := 2) ?hd (cs := #[.int .i64 a0_0, .slice A0_1 l0_1.length c0_1]) (t := 28) ?hr ?_; (case hd => rfl); (case hg => rfl); (case hr => first | (go_simp; done) | (go_simp; rfl)); intro gb167 hg w5 hbox hb; have n0_ := Aside0.mk (below_step (by repeat (first | (with_reducible first | exact HB.out | apply below_alloc | apply pw_below_drewN | apply below_drew1) | exact HB.out)) hb); have n1_ := Aside0.mk (hbox); have n2_ := Aside0.mk ((by rw [hg]; exact (below_size (by repeat (first | (with_reducible first | exact HB.out | apply below_alloc | apply pw_below_drewN | apply below_drew1) | exact HB.out))) : w.heap.size ≤ gb167)); have n3_ := Aside0.mk ((by rw [hg]; exact (below_size (by repeat (first | (with_reducible first | exact HB.out | apply below_alloc | apply pw_below_drewN | apply below_drew1) | exact HB.out))) : w.heap.size ≤ gb167)); clear HB; have HB := n0_; have BK167 := n1_; have GW167 := n2_; have GE167 := n3_; clear n0_ n1_ n2_ n3_; clear hb hbox hg) | ((with_reducible refine gate_dst (N := 3) rfl ?_); refine box_event ?hg (N := 3) ?hd (cs := #[.int .i64 a1_0, .slice A1_1 l1_1.length c1_1]) (t := 28) ?hr ?_; (case hd => rfl); (case hg => rfl); (case hr => first | (go_simp; done) | (go_simp; rfl)); intro gb168 hg w6 hbox hb; have n0_ := Aside0.mk (blk_below (g := gb167) (o := .cells #[.int .i64 a0_0, .slice A0_1 l0_1.length c0_1] 28 (0, 0)) (by (with_reducible repeat (first | refine blk_drewN ?_ _ | refine blk_drew ?_ | refine blk_alloc ?_ _)); exact BK167.out) hb); have n1_ := Aside0.mk (below_step (by repeat (first | (with_reducible first | exact HB.out | apply below_alloc | apply pw_below_drewN | apply below_drew1 | refine below_set ?_ GE167.out) | exact HB.out)) hb); have n2_ := Aside0.mk (hbox); have n3_ := Aside0.mk ((by rw [hg]; exact (below_size (by repeat (first | (with_reducible first | exact HB.out | apply below_alloc | apply pw_below_drewN | apply below_drew1 | refine below_set ?_ GE167.out) | exact HB.out))) : w.heap.size ≤ gb168)); have n4_ := Aside0.mk ((by rw [hg]; exact (below_size (by repeat (first | (with_reducible first | exact HB.out | apply below_alloc | apply pw_below_drewN | apply below_drew1 | refine below_set ?_ GE167.out) | exact HB.out))) : w.heap.size ≤ gb168)); have n5_ := Aside0.mk ((by rw [hg]; exact Nat.ne_of_lt (blk_lt (g := gb167) (o := .cells #[.int .i64 a0_0, .slice A0_1 l0_1.length c0_1] 28 (0, 0)) (by (with_reducible repeat (first | refine blk_drewN ?_ _ | refine blk_drew ?_ | refine blk_alloc ?_ _)); exact BK167.out)) : gb167 ≠ gb168)); have n6_ := Aside0.mk ((by rw [hg]; exact Nat.ne_of_gt (blk_lt (g := gb167) (o := .cells #[.int .i64 a0_0, .slice A0_1 l0_1.length c0_1] 28 (0, 0)) (by (with_reducible repeat (first | refine blk_drewN ?_ _ | refine blk_drew ?_ | refine blk_alloc ?_ _)); exact BK167.out)) : gb168 ≠ gb167)); clear BK167; clear HB; have BK167 := n0_; have HB := n1_; have BK168 := n2_; have GW168 := n3_; have GE168 := n4_; have NB167_168 := n5_; have NB168_167 := n6_; clear n0_ n1_ n2_ n3_ n4_ n5_ n6_; clear hb hbox hg; have hnb7 := NB167_168.out; have hnc7 := NB168_167.out; have hcz8_0 : w6.cell? ⟨gb167, 0, none⟩ = some (.int .i64 a0_0) := (blk_cell BK167.out 0).trans rfl; have hcz8_1 : w6.cell? ⟨gb167, 1, none⟩ = some (.slice A0_1 l0_1.length c0_1) := (blk_cell BK167.out 1).trans rfl; have hfz8_0 := blk_frozen BK167.out 0; have hfz8_1 := blk_frozen BK167.out 1; have hcz9_0 : w6.cell? ⟨gb168, 0, none⟩ = some (.int .i64 a1_0) := (blk_cell BK168.out 0).trans rfl; have hcz9_1 : w6.cell? ⟨gb168, 1, none⟩ = some (.slice A1_1 l1_1.length c1_1) := (blk_cell BK168.out 1).trans rfl; have hfz9_0 := blk_frozen BK168.out 0; have hfz9_1 := blk_frozen BK168.out 1) | (go_at_call 77; (with_reducible refine (clavierref02_Ints.calls k _ _ l0_1 _ _ l1_1 t169 _ ?side1 ?side2 ?side3 ?side4 A4.out).mono ?_); (case side1 => repeat (first | exact (Kd.C_below HR0_1.out HB.out) | (with_reducible refine Kd.C_alloc ?_ _) | (with_reducible refine Kd.C_drewN ?_ _) | (with_reducible refine Kd.C_drew ?_))); (case side2 => exact HC0_1.out); (case side3 => repeat (first | exact (Kd.C_below HR1_1.out HB.out) | (with_reducible refine Kd.C_alloc ?_ _) | (with_reducible refine Kd.C_drewN ?_ _) | (with_reducible refine Kd.C_drew ?_))); (case side4 => exact HC1_1.out); rintro e w' ⟨rfl, ⟨nd, rfl⟩⟩))
    go_ret
    exact ⟨by first | rfl | (simp [errW_none, errW_some] <;> rfl) | (simp [*, errW_none, errW_some] <;> rfl), by repeat (first | (with_reducible first | exact HB.out | apply below_alloc | apply pw_below_drewN | apply below_drew1 | refine below_set ?_ GE167.out | refine below_set ?_ GE168.out) | exact HB.out)⟩
  · rw [if_neg c3] at H
    have c3b0 : (a0_0 == a1_0) = false := beq_eq_false_iff_ne.mpr c3
    have c3b1 : (a0_0 != a1_0) = true := bne_iff_ne.mpr c3
    obtain rfl := Option.some.inj H
    go_enter Tryz.func35, Tryz.ntmps35
    go_wp2_with (first | ((with_reducible refine gate_dst (N := 2) rfl ?_); refine box_event ?hg (N := 2) ?hd (cs := #[.int .i64 a0_0, .slice A0_1 l0_1.length c0_1]) (t := 28) ?hr ?_; (case hd => rfl); (case hg => rfl); (case hr => first | (go_simp; done) | (go_simp; rfl)); intro gb167 hg w10 hbox hb; have n0_ := Aside0.mk (below_step (by repeat (first | (with_reducible first | exact HB.out | apply below_alloc | apply pw_below_drewN | apply below_drew1) | exact HB.out)) hb); have n1_ := Aside0.mk (hbox); have n2_ := Aside0.mk ((by rw [hg]; exact (below_size (by repeat (first | (with_reducible first | exact HB.out | apply below_alloc | apply pw_below_drewN | apply below_drew1) | exact HB.out))) : w.heap.size ≤ gb167)); have n3_ := Aside0.mk ((by rw [hg]; exact (below_size (by repeat (first | (with_reducible first | exact HB.out | apply below_alloc | apply pw_below_drewN | apply below_drew1) | exact HB.out))) : w.heap.size ≤ gb167)); clear HB; have HB := n0_; have BK167 := n1_; have GW167 := n2_; have GE167 := n3_; clear n0_ n1_ n2_ n3_; clear hb hbox hg) | ((with_reducible refine gate_dst (N := 3) rfl ?_); refine box_event ?hg (N := 3) ?hd (cs := #[.int .i64 a1_0, .slice A1_1 l1_1.length c1_1]) (t := 28) ?hr ?_; (case hd => rfl); (case hg => rfl); (case hr => first | (go_simp; done) | (go_simp; rfl)); intro gb168 hg w11 hbox hb; have n0_ := Aside0.mk (blk_below (g := gb167) (o := .cells #[.int .i64 a0_0, .slice A0_1 l0_1.length c0_1] 28 (0, 0)) (by (with_reducible repeat (first | refine blk_drewN ?_ _ | refine blk_drew ?_ | refine blk_alloc ?_ _)); exact BK167.out) hb); have n1_ := Aside0.mk (below_step (by repeat (first | (with_reducible first | exact HB.out | apply below_alloc | apply pw_below_drewN | apply below_drew1 | refine below_set ?_ GE167.out) | exact HB.out)) hb); have n2_ := Aside0.mk (hbox); have n3_ := Aside0.mk ((by rw [hg]; exact (below_size (by repeat (first | (with_reducible first | exact HB.out | apply below_alloc | apply pw_below_drewN | apply below_drew1 | refine below_set ?_ GE167.out) | exact HB.out))) : w.heap.size ≤ gb168)); have n4_ := Aside0.mk ((by rw [hg]; exact (below_size (by repeat (first | (with_reducible first | exact HB.out | apply below_alloc | apply pw_below_drewN | apply below_drew1 | refine below_set ?_ GE167.out) | exact HB.out))) : w.heap.size ≤ gb168)); have n5_ := Aside0.mk ((by rw [hg]; exact Nat.ne_of_lt (blk_lt (g := gb167) (o := .cells #[.int .i64 a0_0, .slice A0_1 l0_1.length c0_1] 28 (0, 0)) (by (with_reducible repeat (first | refine blk_drewN ?_ _ | refine blk_drew ?_ | refine blk_alloc ?_ _)); exact BK167.out)) : gb167 ≠ gb168)); have n6_ := Aside0.mk ((by rw [hg]; exact Nat.ne_of_gt (blk_lt (g := gb167) (o := .cells #[.int .i64 a0_0, .slice A0_1 l0_1.length c0_1] 28 (0, 0)) (by (with_reducible repeat (first | refine blk_drewN ?_ _ | refine blk_drew ?_ | refine blk_alloc ?_ _)); exact BK167.out)) : gb168 ≠ gb167)); clear BK167; clear HB; have BK167 := n0_; have HB := n1_; have BK168 := n2_; have GW168 := n3_; have GE168 := n4_; have NB167_168 := n5_; have NB168_167 := n6_; clear n0_ n1_ n2_ n3_ n4_ n5_ n6_; clear hb hbox hg; have hnb12 := NB167_168.out; have hnc12 := NB168_167.out; have hcz13_0 : w11.cell? ⟨gb167, 0, none⟩ = some (.int .i64 a0_0) := (blk_cell BK167.out 0).trans rfl; have hcz13_1 : w11.cell? ⟨gb167, 1, none⟩ = some (.slice A0_1 l0_1.length c0_1) := (blk_cell BK167.out 1).trans rfl; have hfz13_0 := blk_frozen BK167.out 0; have hfz13_1 := blk_frozen BK167.out 1; have hcz14_0 : w11.cell? ⟨gb168, 0, none⟩ = some (.int .i64 a1_0) := (blk_cell BK168.out 0).trans rfl; have hcz14_1 : w11.cell? ⟨gb168, 1, none⟩ = some (.slice A1_1 l1_1.length c1_1) := (blk_cell BK168.out 1).trans rfl; have hfz14_0 := blk_frozen BK168.out 0; have hfz14_1 := blk_frozen BK168.out 1))
    go_ret
    exact ⟨by first | rfl | (simp [errW_none, errW_some] <;> rfl) | (simp [*, errW_none, errW_some] <;> rfl), by repeat (first | (with_reducible first | exact HB.out | apply below_alloc | apply pw_below_drewN | apply below_drew1 | refine below_set ?_ GE167.out | refine below_set ?_ GE168.out) | exact HB.out)⟩
def clavierref08_Flags.f (a0 : Int) : Option (Int) := some ((mx a0 0) % 32)
set_option maxHeartbeats 8000000 in
set_option maxRecDepth 100000 in
theorem clavierref08_Flags.calls (a0 : Int) (r : Int) (w : World) (h : clavierref08_Flags.f a0 = some r) :
    Calls Tryz.prog 23 #[.int .i64 a0] w fun e w' => e = .returned (.int .i64 r) ∧ Below w.heap.size w w' := by
  have HB := Aside0.mk (Below.refl w.heap.size w)
  have H : (some ((mx a0 0) % 32)) = some r := h
  clear h
  obtain ⟨ji2, hji2⟩ : ∃ j_ : Int, (mx a0 0) = j_ := ⟨_, rfl⟩
  replace H : (some ((ji2) % 32)) = some r := by first | (rw [hji2] at H; exact H) | (simp only [hji2] at H ⊢; exact H)
  (try (have hji2l : 0 ≤ ji2 := by (rw [← hji2]; unfold mx; (repeat' split) <;> omega)))
  (try (have hji2m : 0 ≤ ji2 := by omega))
  have hji2_ : (if a0 < 0 then 0 else a0) = ji2 := hji2
  obtain rfl := Option.some.inj H
  go_enter Tryz.func23, Tryz.ntmps23
  go_wp2
  go_ret
  exact ⟨by first | rfl | (simp [errW_none, errW_some] <;> rfl) | (simp only [← hji2]; first | rfl | (simp [errW_none, errW_some] <;> rfl)) | (simp [*, errW_none, errW_some] <;> rfl), by repeat (first | (with_reducible first | exact HB.out | apply below_alloc | apply pw_below_drewN | apply below_drew1) | exact HB.out)⟩
end Go.Proofs.YtdmifbffamckbaaGreatDoor.G
end
section
namespace Go.Proofs.YtdmifbffamckbaaGreatDoor
set_option linter.unusedVariables false
set_option linter.unusedSimpArgs false
open Go.RowKit Kit Go.Proofs.YtdmifbffamckbaaGreatDoorW.PrintWords
def flagsI (n : Int) : Int := (mx n 0) % 32
def tameL (l : List Int) : List Int := (l.take 8).map flagsI
theorem rd_intA (l : List Int) (i : Nat) (h : i < l.length) : rd l (i : Int) = l.getD i 0 := by
  simp [rd, List.getD, h]
theorem tameL_len (l : List Int) : (tameL l).length ≤ 8 := by unfold tameL; rw [List.length_map, List.length_take]; omega
theorem flags08_calls (n : Int) (W : World) : Calls Tryz.prog 23 #[.int .i64 n] W fun e w' => e = .returned (.int .i64 (flagsI n)) ∧ Below W.heap.size W w' := G.clavierref08_Flags.calls n _ W rfl
attribute [local irreducible] wpList Calls wpQuiet
set_option maxRecDepth 100000 in
set_option maxHeartbeats 8000000 in
theorem tame_explicit (m : Md) (s0 s1 s2 s3 s4 s5 s6 s7 s8 s9 s10 s11 x : Int) (A : Option Addr) (c : Nat) (l : List Int) (hc : l.length ≤ c) (w : World) (hr : Kd.C (Kd.int .i64) w A l.length l) : Calls Tryz.prog 11 #[.agg #[.bool m.cursor, .bool m.keypad, .bool m.back, .bool m.focus, .bool m.paste, .bool m.lock, .bool m.line, .int .i64 m.mouse, .int .i64 m.coding, .int .i64 m.other, .int .u8 s0, .int .u8 s1, .int .u8 s2, .int .u8 s3, .int .u8 s4, .int .u8 s5, .int .u8 s6, .int .u8 s7, .int .u8 s8, .int .u8 s9, .int .u8 s10, .int .u8 s11, .int .i64 x, .slice A l.length c]] w fun e w' => ∃ p n c2 R, e = .returned (.agg #[.bool m.cursor, .bool m.keypad, .bool m.back, .bool m.focus, .bool m.paste, .bool m.lock, .bool m.line, .int .i64 m.mouse, .int .i64 m.coding, .int .i64 m.other, .int .u8 s0, .int .u8 s1, .int .u8 s2, .int .u8 s3, .int .u8 s4, .int .u8 s5, .int .u8 s6, .int .u8 s7, .int .u8 s8, .int .u8 s9, .int .u8 s10, .int .u8 s11, .int .i64 (flagsI x), .slice p n c2]) ∧ GRow 3 (.slice p n c2) ((tameL l).map (Value.int .i64)) R ∧ Mine w w' R := by
  have HO := Mine.start w
  have HC := Lib.hid hr
  clear hr
  go_enter Tryz.func11, Tryz.ntmps11
  go_wp2_with (first
    | ((with_reducible refine gateAt (N := 1) rfl ?_); refine own_boxF (T := 30) (cs := [.bool m.cursor, .bool m.keypad, .bool m.back, .bool m.focus, .bool m.paste, .bool m.lock, .bool m.line, .int .i64 m.mouse, .int .i64 m.coding, .int .i64 m.other, .int .u8 s0, .int .u8 s1, .int .u8 s2, .int .u8 s3, .int .u8 s4, .int .u8 s5, .int .u8 s6, .int .u8 s7, .int .u8 s8, .int .u8 s9, .int .u8 s10, .int .u8 s11, .int .i64 x, .slice A l.length c]) HO rfl rfl rfl ?_; clear HO; intro g1 wN hgg1 HO; (try simp only [Act.put, List.setIfInBounds_toArray, List.set_cons_zero, List.set_cons_succ]))
    | (first
      | ((with_reducible refine gate ?_); (first
      | ((with_reducible refine gateAt (N := 2) rfl ?_); refine own_allocF (T := 30) HO rfl rfl Tryz.zeroValue30 rfl ?_; clear HO; intro g2 wN hgg2 HO; (try simp only [Act.put, List.setIfInBounds_toArray, List.set_cons_zero, List.set_cons_succ]))))))
  go_loopw [3, 4] (fun a i wr => ∃ k : Nat, k ≤ l.length ∧ k ≤ 8 ∧ i = .int .i64 k ∧ ∃ p q cc R, a = .slice p q cc ∧ GRow 3 (.slice p q cc) (((l.take k).map flagsI).map (Value.int .i64)) R ∧ Mine w wr ((g2, IsCells stZero 30) :: (g1, IsCells [.bool m.cursor, .bool m.keypad, .bool m.back, .bool m.focus, .bool m.paste, .bool m.lock, .bool m.line, .int .i64 m.mouse, .int .i64 m.coding, .int .i64 m.other, .int .u8 s0, .int .u8 s1, .int .u8 s2, .int .u8 s3, .int .u8 s4, .int .u8 s5, .int .u8 s6, .int .u8 s7, .int .u8 s8, .int .u8 s9, .int .u8 s10, .int .u8 s11, .int .i64 x, .slice A l.length c] 30) :: R)) (fun _ i _ => 8 - (intOf i).toNat)
  case atStart => exact ⟨0, Nat.zero_le _, Nat.zero_le _, rfl, none, 0, 0, [], rfl, by simpa using GRow.nil _, HO⟩
  case round =>
    obtain ⟨k, hk, hk8, rfl, p, q, cc, R, rfl, hG, HO2⟩ := hrel
    clear HO
    have HO := HO2
    clear HO2
    by_cases hlt : k < l.length
    · by_cases hl8 : k < 8
      · obtain ⟨ad, e, hcell⟩ := Kd.at_int HC.out (k : Int) (by omega) (by omega)
        subst e
        rw [Int.toNat_natCast, rd_intA l k hlt] at hcell
        obtain ⟨z, hz⟩ : ∃ z, l.getD k 0 = z := ⟨_, rfl⟩
        rw [hz] at hcell
        have hcw := (HO.below.cell (World.block_lt_of_cell? w _ hcell)).trans hcell
        have d1 : decide ((k : Int) < (l.length : Int)) = true := decide_eq_true (by omega)
        have d2 : decide ((k : Int) < 8) = true := decide_eq_true (by omega)
        have d3 : decide (k < l.length) = true := decide_eq_true hlt
        have hki : (k : Int) < (l.length : Int) := by omega
        have hst : (l.take (k + 1)).map flagsI = (l.take k).map flagsI ++ [flagsI z] := by
          rw [List.take_add_one, List.map_append]
          congr 1
          have : l[k]? = some z := by rw [← hz]; simp [List.getD, hlt]
          rw [this]
          rfl
        have HST := Lib.hid hst
        have HGR := Lib.hid hG
        have H65 : Hid ((((l.take k).map flagsI).map (Value.int .i64)).length + 1 ≤ maxLen ∧ ((((l.take k).map flagsI).map (Value.int .i64)).length + 1) * 8 ≤ 140737488355328) := Lib.hid (by rw [List.length_map, List.length_map, List.length_take]; unfold maxLen; omega)
        have HLT := Lib.hid hlt
        have HL8 := Lib.hid hl8
        clear hst hG hz hk hk8 hc hcell
        go_wp2_with (first
          | (go_at_call 23; refine (flags08_calls z _).mono ?_; rintro eN wN ⟨rfl, hbN⟩; have HON := HO.call hbN; clear HO hbN; have HO := HON; clear HON)
          | (first
      | ((with_reducible refine gate ?_); (first
      | ((with_reducible refine gateAt (N := 25) rfl ?_); refine own_litF HO rfl (n := 1) (cs := [.int .i64 (flagsI z)]) (T := 3) (by first | (go_simp; done) | (go_simp; rfl)) ?_; clear HO; intro gE wN hggE HO; (try simp only [Act.put, List.setIfInBounds_toArray, List.set_cons_zero, List.set_cons_succ]))
      | ((with_reducible refine gateAt (N := 26) rfl ?_); refine own_append1 (T := 3) (t := 26) (z := .int .i64 0) (bytes := 8) HO HGR.out (by repeat (first | exact Tl.here | exact Tl.app | apply Tl.cons)) rfl rfl (.tmp rfl) (.tmp rfl) (by first | exact .head _ | exact .tail _ (.head _) | exact .tail _ (.tail _ (.head _)) | exact .tail _ (.tail _ (.tail _ (.head _))) | exact .tail _ (.tail _ (.tail _ (.tail _ (.head _)))) | exact .tail _ (.tail _ (.tail _ (.tail _ (.tail _ (.head _))))) | exact .tail _ (.tail _ (.tail _ (.tail _ (.tail _ (.tail _ (.head _)))))) | exact .tail _ (.tail _ (.tail _ (.tail _ (.tail _ (.tail _ (.tail _ (.head _)))))))) Tryz.underlying26 (by kernel_rfl) (by rfl) (by rfl) H65.out ?_; clear HO; intro p2 n2 c2 wN R2 hR2 HO; (simp only [List.nil_append, List.cons_append] at HO); (try simp only [Act.put, List.setIfInBounds_toArray, List.set_cons_zero, List.set_cons_succ]))
      | ((refine own_load1 (T := 26) HO rfl rfl rfl (by first | exact .head _ | exact .tail _ (.head _)) Tryz.isAgg26 rfl ?_); (try simp only [Act.put, List.setIfInBounds_toArray, List.set_cons_zero, List.set_cons_succ]))
      | ((refine own_store1 (T := 26) HO rfl rfl rfl (by first | exact .const | exact .tmp rfl | exact .func) (by rfl) (by first | exact .here | exact .there (.here)) Tryz.sizeOf26 (by repeat constructor) (by rfl) ?_); clear HO; intro wN HO; (try simp only [Act.put, List.setIfInBounds_toArray, List.set_cons_zero, List.set_cons_succ]))))))
        go_roundw
        case rel => exact ⟨k + 1, HLT.out, HL8.out, by first | rfl | (refine congrArg (Value.int .i64) ?_; have := HL8.out; unfold wrap64; omega), p2, n2, c2, R2, rfl, by rw [HST.out, List.map_append]; exact hR2, HO.less (List.sublist_cons_self _ _)⟩
        case measure => have := HL8.out; simp [intOf]; first | omega | (unfold wrap64; omega)
      · obtain rfl : k = 8 := by omega
        have d1 : decide (((8 : Nat) : Int) < (l.length : Int)) = true := decide_eq_true (by omega)
        have d2 : decide (((8 : Nat) : Int) < 8) = false := by decide
        have HT := Lib.hid (show (l.take 8).map flagsI = tameL l by unfold tameL; rfl)
        have HGR := Lib.hid hG
        clear hG hk hk8 hc
        go_wp2_with (first
          | (go_at_call 23; refine (flags08_calls x _).mono ?_; rintro eN wN ⟨rfl, hbN⟩; have HON := HO.call hbN; clear HO hbN; have HO := HON; clear HON)
          | (first
      | ((with_reducible refine gate ?_); (first
      | ((refine own_load (T := 30) HO rfl rfl rfl (by first | exact .head _ | exact .tail _ (.head _)) Tryz.isAgg30 Tryz.sizeOf30 (by repeat constructor) ?_); (try simp only [Act.put, List.setIfInBounds_toArray, List.set_cons_zero, List.set_cons_succ]))
      | ((refine own_load (T := 28) HO rfl rfl rfl (by first | exact .head _ | exact .tail _ (.head _)) Tryz.isAgg28 Tryz.sizeOf28 (by repeat constructor) ?_); (try simp only [Act.put, List.setIfInBounds_toArray, List.set_cons_zero, List.set_cons_succ]))
      | ((refine own_load1 (T := 26) HO rfl rfl rfl (by first | exact .head _ | exact .tail _ (.head _)) Tryz.isAgg26 rfl ?_); (try simp only [Act.put, List.setIfInBounds_toArray, List.set_cons_zero, List.set_cons_succ]))
      | ((refine own_load1 (T := 3) HO rfl rfl rfl (by first | exact .head _ | exact .tail _ (.head _)) Tryz.isAgg3 rfl ?_); (try simp only [Act.put, List.setIfInBounds_toArray, List.set_cons_zero, List.set_cons_succ]))
      | ((refine own_store1 (T := 26) HO rfl rfl rfl (by first | exact .const | exact .tmp rfl | exact .func) (by rfl) (by first | exact .here | exact .there (.here)) Tryz.sizeOf26 (by repeat constructor) (by rfl) ?_); clear HO; intro wN HO; (try simp only [Act.put, List.setIfInBounds_toArray, List.set_cons_zero, List.set_cons_succ]))
      | ((refine own_store1 (T := 3) HO rfl rfl rfl (by first | exact .const | exact .tmp rfl | exact .func) (by rfl) (by first | exact .here | exact .there (.here)) Tryz.sizeOf3 (by repeat constructor) (by rfl) ?_); clear HO; intro wN HO; (try simp only [Act.put, List.setIfInBounds_toArray, List.set_cons_zero, List.set_cons_succ]))
      | ((refine own_store (T := 30) HO rfl rfl rfl rfl (by first | exact .here | exact .there (.here)) Tryz.sizeOf30 (by repeat constructor) rfl ?_); clear HO; intro wN HO; (try simp only [Act.put, List.setIfInBounds_toArray, List.set_cons_zero, List.set_cons_succ]))
      | ((refine own_store (T := 28) HO rfl rfl rfl rfl (by first | exact .here | exact .there (.here)) Tryz.sizeOf28 (by repeat constructor) rfl ?_); clear HO; intro wN HO; (try simp only [Act.put, List.setIfInBounds_toArray, List.set_cons_zero, List.set_cons_succ]))))))
        refine bodyPost_ret (own_results1 HO Tryz.results11 rfl (.head _) Tryz.isAgg30 Tryz.sizeOf30 (by repeat constructor)) rfl ⟨p, q, cc, R, rfl, ?_, HO.less (.cons _ (.cons _ (.refl _)))⟩
        rw [← HT.out]
        exact HGR.out
    · obtain rfl : k = l.length := by omega
      have d1 : decide ((l.length : Int) < (l.length : Int)) = false := decide_eq_false (by omega)
      have HT := Lib.hid (show (l.take l.length).map flagsI = tameL l by unfold tameL; rw [List.take_of_length_le (Nat.le_refl _), List.take_of_length_le hk8])
      have HGR := Lib.hid hG
      clear hG hk hk8 hc
      go_wp2_with (first
        | (go_at_call 23; refine (flags08_calls x _).mono ?_; rintro eN wN ⟨rfl, hbN⟩; have HON := HO.call hbN; clear HO hbN; have HO := HON; clear HON)
        | (first
      | ((with_reducible refine gate ?_); (first
      | ((refine own_load (T := 30) HO rfl rfl rfl (by first | exact .head _ | exact .tail _ (.head _)) Tryz.isAgg30 Tryz.sizeOf30 (by repeat constructor) ?_); (try simp only [Act.put, List.setIfInBounds_toArray, List.set_cons_zero, List.set_cons_succ]))
      | ((refine own_load (T := 28) HO rfl rfl rfl (by first | exact .head _ | exact .tail _ (.head _)) Tryz.isAgg28 Tryz.sizeOf28 (by repeat constructor) ?_); (try simp only [Act.put, List.setIfInBounds_toArray, List.set_cons_zero, List.set_cons_succ]))
      | ((refine own_load1 (T := 26) HO rfl rfl rfl (by first | exact .head _ | exact .tail _ (.head _)) Tryz.isAgg26 rfl ?_); (try simp only [Act.put, List.setIfInBounds_toArray, List.set_cons_zero, List.set_cons_succ]))
      | ((refine own_load1 (T := 3) HO rfl rfl rfl (by first | exact .head _ | exact .tail _ (.head _)) Tryz.isAgg3 rfl ?_); (try simp only [Act.put, List.setIfInBounds_toArray, List.set_cons_zero, List.set_cons_succ]))
      | ((refine own_store1 (T := 26) HO rfl rfl rfl (by first | exact .const | exact .tmp rfl | exact .func) (by rfl) (by first | exact .here | exact .there (.here)) Tryz.sizeOf26 (by repeat constructor) (by rfl) ?_); clear HO; intro wN HO; (try simp only [Act.put, List.setIfInBounds_toArray, List.set_cons_zero, List.set_cons_succ]))
      | ((refine own_store1 (T := 3) HO rfl rfl rfl (by first | exact .const | exact .tmp rfl | exact .func) (by rfl) (by first | exact .here | exact .there (.here)) Tryz.sizeOf3 (by repeat constructor) (by rfl) ?_); clear HO; intro wN HO; (try simp only [Act.put, List.setIfInBounds_toArray, List.set_cons_zero, List.set_cons_succ]))
      | ((refine own_store (T := 30) HO rfl rfl rfl rfl (by first | exact .here | exact .there (.here)) Tryz.sizeOf30 (by repeat constructor) rfl ?_); clear HO; intro wN HO; (try simp only [Act.put, List.setIfInBounds_toArray, List.set_cons_zero, List.set_cons_succ]))
      | ((refine own_store (T := 28) HO rfl rfl rfl rfl (by first | exact .here | exact .there (.here)) Tryz.sizeOf28 (by repeat constructor) rfl ?_); clear HO; intro wN HO; (try simp only [Act.put, List.setIfInBounds_toArray, List.set_cons_zero, List.set_cons_succ]))))))
      refine bodyPost_ret (own_results1 HO Tryz.results11 rfl (.head _) Tryz.isAgg30 Tryz.sizeOf30 (by repeat constructor)) rfl ⟨p, q, cc, R, rfl, ?_, HO.less (.cons _ (.cons _ (.refl _)))⟩
      rw [← HT.out]
      exact HGR.out
theorem tame_calls (m : Md) (s : List Int) (hs : s.length = 12) (x : Int) (A : Option Addr) (c : Nat) (l : List Int) (hc : l.length ≤ c) (w : World) (hr : Kd.C (Kd.int .i64) w A l.length l) : Calls Tryz.prog 11 #[.agg (stS m s x (.slice A l.length c)).toArray] w fun e w' => ∃ p n c2 R, e = .returned (.agg (stS m s (flagsI x) (.slice p n c2)).toArray) ∧ GRow 3 (.slice p n c2) ((tameL l).map (Value.int .i64)) R ∧ Mine w w' R := by
  obtain ⟨s0, s1, s2, s3, s4, s5, s6, s7, s8, s9, s10, s11, rfl⟩ := twelve hs
  exact tame_explicit m s0 s1 s2 s3 s4 s5 s6 s7 s8 s9 s10 s11 x A c l hc w hr
end Go.Proofs.YtdmifbffamckbaaGreatDoor
end
section
namespace Go.Proofs.YtdmifbffamckbaaGreatDoor
set_option linter.unusedVariables false
set_option linter.unusedSimpArgs false
open Go.RowKit Kit Go.Proofs.YtdmifbffamckbaaGreatDoorW.PrintWords
theorem intsI_l0 (a b : List Int) (hlen : a.length = b.length) (h63 : a.length ≤ 4611686018427387904) : ∀ (k j : Nat), a.length - j < k → j ≤ a.length → G.clavierref02_Ints.l0 k a b (j : Int) = some (decide (a.drop j = b.drop j))
  | 0, j, h, _ => by omega
  | k + 1, j, h, hj => by
    unfold G.clavierref02_Ints.l0
    by_cases hlt : j < a.length
    · have hb : j < b.length := by omega
      rw [if_pos (by omega), if_pos (by omega), if_pos (by omega)]
      have ea : rd a (j : Int) = a[j] := by simp [rd, hlt]
      have eb : rd b (j : Int) = b[j] := by simp [rd, hb]
      rw [ea, eb, List.drop_eq_getElem_cons hlt, List.drop_eq_getElem_cons hb]
      by_cases he : a[j] = b[j]
      · rw [if_pos he, show wrap64 ((j : Int) + 1) = ((j + 1 : Nat) : Int) by unfold wrap64; omega, intsI_l0 a b hlen h63 k (j + 1) (by omega) (by omega)]
        congr 1
        rw [decide_eq_decide, he, List.cons.injEq]
        simp only [true_and]
      · rw [if_neg he]
        congr 1
        rw [eq_comm, decide_eq_false_iff_not]
        intro h
        injection h with h1 _
        exact he h1
    · have : j = a.length := by omega
      subst this
      rw [if_neg (by omega), List.drop_length, hlen, List.drop_length]
      rfl
theorem intsI_f (a b : List Int) (h63 : a.length ≤ 4611686018427387904) : G.clavierref02_Ints.f (a.length + 1) a b = some (decide (a = b)) := by
  unfold G.clavierref02_Ints.f
  by_cases hlen : a.length = b.length
  · rw [if_pos (by omega)]
    have := intsI_l0 a b hlen h63 (a.length + 1) 0 (by omega) (by omega)
    simpa using this
  · rw [if_neg (by omega)]
    congr 1
    rw [eq_comm, decide_eq_false_iff_not]
    intro h
    exact hlen (congrArg List.length h)
theorem refStackSame_calls (x y : Int) (A B : Option Addr) (ca cb : Nat) (a b : List Int) (ha : a.length ≤ ca) (hb : b.length ≤ cb) (h63 : a.length ≤ 4611686018427387904) (w : World) (hA : Kd.C (Kd.int .i64) w A a.length a) (hB : Kd.C (Kd.int .i64) w B b.length b) :
    Calls Tryz.prog 35 #[.agg #[.int .i64 x, .slice A a.length ca], .agg #[.int .i64 y, .slice B b.length cb]] w fun e w' => e = .returned (.bool (decide (x = y) && decide (a = b))) ∧ Below w.heap.size w w' := by
  refine G.clavierref08_Same.calls (a.length + 1) x A ca a y B cb b _ w hA ha hB hb ?_
  unfold G.clavierref08_Same.f
  rw [intsI_f a b h63]
  by_cases h : x = y
  · rw [if_pos h, decide_eq_true h]
    rfl
  · rw [if_neg h, decide_eq_false h]
    rfl
attribute [local irreducible] wpList Calls wpQuiet
set_option maxRecDepth 100000 in
set_option maxHeartbeats 8000000 in
theorem refSame_calls (m n : Md) (sa sb : List Int) (hsa : sa.length = 12) (hsb : sb.length = 12) (x y : Int) (A B : Option Addr) (ca cb : Nat) (a b : List Int) (ha : a.length ≤ ca) (hb : b.length ≤ cb) (h63 : a.length ≤ 4611686018427387904) (w : World) (hA : Kd.C (Kd.int .i64) w A a.length a) (hB : Kd.C (Kd.int .i64) w B b.length b) :
    Calls Tryz.prog 22 #[.agg (stS m sa x (.slice A a.length ca)).toArray, .agg (stS n sb y (.slice B b.length cb)).toArray] w fun e w' => e = .returned (.bool (decide (m = n) && (decide (sa = sb) && (decide (x = y) && decide (a = b))))) ∧ Below w.heap.size w w' := by
  have HO := Mine.start w
  have hs := fun W (hW : Below w.heap.size w W) => refStackSame_calls x y A B ca cb a b ha hb h63 W (Kd.C_below hA hW) (Kd.C_below hB hW)
  have he1 := fun w => equal_modes m n w
  have he2 := fun w => equal_saved' sa sb hsa hsb w
  obtain ⟨e1, h1⟩ : ∃ e, decide (m = n) = e := ⟨_, rfl⟩
  obtain ⟨e2, h2⟩ : ∃ e, decide (sa = sb) = e := ⟨_, rfl⟩
  obtain ⟨e3, h3⟩ : ∃ e, (decide (x = y) && decide (a = b)) = e := ⟨_, rfl⟩
  rw [h1] at he1 ⊢
  rw [h2] at he2 ⊢
  rw [h3] at hs ⊢
  have HE1 : Hid (∀ w, (Op.equal 23 (.agg (mdL m).toArray) (.agg (mdL n).toArray)).run Tryz.prog w = .ok e1 w) := Lib.hid he1
  have HE2 := Lib.hid he2
  have HS := Lib.hid hs
  clear he1 he2 hs h1 h2 h3 hA hB ha hb h63
  go_enter Tryz.func22, Tryz.ntmps22
  cases e1 <;> cases e2
  all_goals
    go_wp2_with (first
      | ((with_reducible refine gateAt (N := 2) rfl ?_); refine own_boxF (T := 30) (cs := stS m sa x (.slice A a.length ca)) HO rfl rfl rfl ?_; clear HO; intro g2 wN hgg2 HO; (try simp only [Act.put, List.setIfInBounds_toArray, List.set_cons_zero, List.set_cons_succ]))
      | ((with_reducible refine gateAt (N := 3) rfl ?_); refine own_boxF (T := 30) (cs := stS n sb y (.slice B b.length cb)) HO rfl rfl rfl ?_; clear HO; intro g3 wN hgg3 HO; (try simp only [Act.put, List.setIfInBounds_toArray, List.set_cons_zero, List.set_cons_succ]))
      | (go_at_call 35; refine (HS.out _ HO.below).mono ?_; rintro eN wN ⟨rfl, hbN⟩; have HON := HO.call hbN; clear HO hbN; have HO := HON; clear HON)
      | ((with_reducible refine gate ?_); (first
        | ((refine own_load (T := 23) HO rfl rfl rfl (by first | exact .head _ | exact .tail _ (.head _) | exact .tail _ (.tail _ (.head _))) Tryz.isAgg23 Tryz.sizeOf23 (slc_m m _) ?_); (try simp only [Act.put, List.setIfInBounds_toArray, List.set_cons_zero, List.set_cons_succ]))
        | ((refine own_load (T := 23) HO rfl rfl rfl (by first | exact .head _ | exact .tail _ (.head _) | exact .tail _ (.tail _ (.head _))) Tryz.isAgg23 Tryz.sizeOf23 (slc_m n _) ?_); (try simp only [Act.put, List.setIfInBounds_toArray, List.set_cons_zero, List.set_cons_succ]))
        | ((refine own_load (T := 25) HO rfl rfl rfl (by first | exact .head _ | exact .tail _ (.head _) | exact .tail _ (.tail _ (.head _))) Tryz.isAgg25 Tryz.sizeOf25 (slc_sv m sa _ hsa) ?_); (try simp only [Act.put, List.setIfInBounds_toArray, List.set_cons_zero, List.set_cons_succ]))
        | ((refine own_load (T := 25) HO rfl rfl rfl (by first | exact .head _ | exact .tail _ (.head _) | exact .tail _ (.tail _ (.head _))) Tryz.isAgg25 Tryz.sizeOf25 (slc_sv n sb _ hsb) ?_); (try simp only [Act.put, List.setIfInBounds_toArray, List.set_cons_zero, List.set_cons_succ]))
        | ((refine own_load (T := 28) HO rfl rfl rfl (by first | exact .head _ | exact .tail _ (.head _) | exact .tail _ (.tail _ (.head _))) Tryz.isAgg28 Tryz.sizeOf28 (slc_st m sa _ _ hsa) ?_); (try simp only [Act.put, List.setIfInBounds_toArray, List.set_cons_zero, List.set_cons_succ]))
        | ((refine own_load (T := 28) HO rfl rfl rfl (by first | exact .head _ | exact .tail _ (.head _) | exact .tail _ (.tail _ (.head _))) Tryz.isAgg28 Tryz.sizeOf28 (slc_st n sb _ _ hsb) ?_); (try simp only [Act.put, List.setIfInBounds_toArray, List.set_cons_zero, List.set_cons_succ]))
        | ((refine own_eql (t := 23) rfl rfl rfl rfl (by kernel_rfl) HE1.out ?_); (try simp only [Act.put, List.setIfInBounds_toArray, List.set_cons_zero, List.set_cons_succ]))
        | ((refine own_eql (t := 25) rfl rfl rfl rfl (by kernel_rfl) HE2.out ?_); (try simp only [Act.put, List.setIfInBounds_toArray, List.set_cons_zero, List.set_cons_succ])))))
    go_ret
    exact ⟨rfl, HO.below⟩
end Go.Proofs.YtdmifbffamckbaaGreatDoor
end
section
namespace Go.Proofs.YtdmifbffamckbaaGreatDoor
set_option linter.unusedVariables false
set_option linter.unusedSimpArgs false
open Go.RowKit Kit Go.Proofs.YtdmifbffamckbaaGreatDoorW.PrintWords
def z12 : List Int := [0, 0, 0, 0, 0, 0, 0, 0, 0, 0, 0, 0]
def restZ : List Value := [.int .u8 0, .int .u8 0, .int .u8 0, .int .u8 0, .int .u8 0, .int .u8 0, .int .u8 0, .int .u8 0, .int .u8 0, .int .u8 0, .int .u8 0, .int .u8 0, .int .i64 0, .slice none 0 0]
def mPaste : Md := { Md.zero with paste := true }
theorem rows_at {w : World} {g1 g2 : Nat} {n : Int} (h1 : w.heap[g1]? = some (.cells [Value.int .i64 n].toArray 3 (0, 0))) (h2 : w.heap[g2]? = some (.cells [Value.slice (some ⟨g1, 0, none⟩) 1 1].toArray 26 (0, 0))) : SeqAt w (some ⟨g2, 0, none⟩) [[n]] :=
  lit_row (xs := [n]) (n := 1) rfl (by decide) h1 h2
theorem noRow (w : World) : Kd.C (Kd.int .i64) w none ([] : List Int).length ([] : List Int) := ⟨rfl, by simp, fun h => by simp at h⟩
theorem do_set (m : Md) (rest : List Value) (hrest : rest.length = 14) (hone : rest.all (·.oneCell') = true) (sc : List Value) (hsc : sc.length = 19) (k p f : Int) (i dt : ByteArray) (A : Option Addr) (c : Nat) (l : List (List Int)) (hc : l.length ≤ c) (h63 : l.length ≤ 4611686018427387904) (hok : askOk k p i f) (hdf : deedOf k p i.data.toList f = some (.plain 46)) (hk3 : k ≠ 3) (w : World) (hr : SeqAt w A l) :
    Calls Tryz.prog 12 #[.agg (stM m rest).toArray, .agg sc.toArray, .agg #[.int .i64 k, .int .u8 p, .slice A l.length c, .string i, .int .u8 f, .string dt]] w fun e w' => e = .returned (.tuple #[.agg (stM (setAll (p == 63) (f == 104) m (nums l)) rest).toArray, .slice none 0 0, .bool true]) ∧ Below w.heap.size w w' :=
  (do_some (stM m rest) sc (by simp [stM, hrest]) hsc k p f i dt A l.length c hok _ hdf (fun h => hk3 h.1) w _ (by simp [stM, hrest]) (by unfold stM; simp only [List.all_cons, hone]; rfl) _ (set_ok w m rest hrest sc k p f i dt A c l hc h63 hr)).mono fun e w' ⟨v, R, h1, h2, h3⟩ => ⟨by rw [h1, h3], h2.below⟩
theorem do_awake1 (a b : Nat) (w : World) (h1 : w.heap[a]? = some (.cells [Value.int .i64 2004].toArray 3 (0, 0))) (h2 : w.heap[b]? = some (.cells [Value.slice (some ⟨a, 0, none⟩) 1 1].toArray 26 (0, 0))) :
    Calls Tryz.prog 12 #[.agg #[.bool false, .bool false, .bool false, .bool false, .bool false, .bool false, .bool false, .int .i64 0, .int .i64 0, .int .i64 0, .int .u8 0, .int .u8 0, .int .u8 0, .int .u8 0, .int .u8 0, .int .u8 0, .int .u8 0, .int .u8 0, .int .u8 0, .int .u8 0, .int .u8 0, .int .u8 0, .int .i64 0, .slice none 0 0], .agg #[.int .i64 0, .int .i64 0, .int .i64 0, .int .i64 0, .int .i64 0, .int .i64 0, .int .i64 0, .int .i64 0, .int .i64 0, .bool false, .bool false, .bool false, .bool false, .bool false, .bool false, .bool false, .int .i64 0, .int .i64 0, .int .i64 0], .agg #[.int .i64 1, .int .u8 63, .slice (some ⟨b, 0, none⟩) 1 1, .string ⟨#[]⟩, .int .u8 104, .string ⟨#[]⟩]] w fun e w' => e = .returned (.tuple #[.agg #[.bool false, .bool false, .bool false, .bool false, .bool true, .bool false, .bool false, .int .i64 0, .int .i64 0, .int .i64 0, .int .u8 0, .int .u8 0, .int .u8 0, .int .u8 0, .int .u8 0, .int .u8 0, .int .u8 0, .int .u8 0, .int .u8 0, .int .u8 0, .int .u8 0, .int .u8 0, .int .i64 0, .slice none 0 0], .slice none 0 0, .bool true]) ∧ Below w.heap.size w w' :=
  do_set Md.zero restZ rfl rfl [.int .i64 0, .int .i64 0, .int .i64 0, .int .i64 0, .int .i64 0, .int .i64 0, .int .i64 0, .int .i64 0, .int .i64 0, .bool false, .bool false, .bool false, .bool false, .bool false, .bool false, .bool false, .int .i64 0, .int .i64 0, .int .i64 0] rfl 1 63 104 ⟨#[]⟩ ⟨#[]⟩ (some ⟨b, 0, none⟩) 1 [[2004]] (by decide) (by decide) ⟨rfl, rfl, by decide, rfl⟩ rfl (by decide) w (rows_at h1 h2)
theorem do_awake2 (a b : Nat) (w : World) (h1 : w.heap[a]? = some (.cells [Value.int .i64 6].toArray 3 (0, 0))) (h2 : w.heap[b]? = some (.cells [Value.slice (some ⟨a, 0, none⟩) 1 1].toArray 26 (0, 0))) :
    Calls Tryz.prog 12 #[.agg #[.bool false, .bool false, .bool false, .bool false, .bool true, .bool false, .bool false, .int .i64 0, .int .i64 0, .int .i64 0, .int .u8 0, .int .u8 0, .int .u8 0, .int .u8 0, .int .u8 0, .int .u8 0, .int .u8 0, .int .u8 0, .int .u8 0, .int .u8 0, .int .u8 0, .int .u8 0, .int .i64 0, .slice none 0 0], .agg #[.int .i64 0, .int .i64 0, .int .i64 2, .int .i64 3, .int .i64 0, .int .i64 0, .int .i64 0, .int .i64 0, .int .i64 0, .bool false, .bool false, .bool false, .bool false, .bool false, .bool false, .bool false, .int .i64 0, .int .i64 0, .int .i64 0], .agg #[.int .i64 1, .int .u8 0, .slice (some ⟨b, 0, none⟩) 1 1, .string ⟨#[]⟩, .int .u8 110, .string ⟨#[]⟩]] w fun e w' => ∃ gA v2, e = .returned (.tuple #[.agg #[.bool false, .bool false, .bool false, .bool false, .bool true, .bool false, .bool false, .int .i64 0, .int .i64 0, .int .i64 0, .int .u8 0, .int .u8 0, .int .u8 0, .int .u8 0, .int .u8 0, .int .u8 0, .int .u8 0, .int .u8 0, .int .u8 0, .int .u8 0, .int .u8 0, .int .u8 0, .int .i64 0, .slice none 0 0], .slice (some ⟨gA, 0, none⟩) 1 1, .bool true]) ∧ Mine w w' [(gA, IsCells [.int .i64 1, .int .u8 0, v2, .string ⟨#[]⟩, .int .u8 82, .string ⟨#[]⟩] 37)] := by
  have hP : G.report_Place.f 10 0 0 2 3 0 0 0 0 0 false false false false false false false 0 0 0 ((0 : Int) == 63) = some (1, 0, [[2], [3]], ⟨#[]⟩, 82, ⟨#[]⟩) := by kernel_rfl
  refine (do_some [.bool false, .bool false, .bool false, .bool false, .bool true, .bool false, .bool false, .int .i64 0, .int .i64 0, .int .i64 0, .int .u8 0, .int .u8 0, .int .u8 0, .int .u8 0, .int .u8 0, .int .u8 0, .int .u8 0, .int .u8 0, .int .u8 0, .int .u8 0, .int .u8 0, .int .u8 0, .int .i64 0, .slice none 0 0] [.int .i64 0, .int .i64 0, .int .i64 2, .int .i64 3, .int .i64 0, .int .i64 0, .int .i64 0, .int .i64 0, .int .i64 0, .bool false, .bool false, .bool false, .bool false, .bool false, .bool false, .bool false, .int .i64 0, .int .i64 0, .int .i64 0] rfl rfl 1 0 110 ⟨#[]⟩ ⟨#[]⟩ (some ⟨b, 0, none⟩) 1 1 ⟨rfl, rfl, by decide, rfl⟩ (.plain 51) rfl (fun h => absurd h.1 (by decide)) w [.bool false, .bool false, .bool false, .bool false, .bool true, .bool false, .bool false, .int .i64 0, .int .i64 0, .int .i64 0, .int .u8 0, .int .u8 0, .int .u8 0, .int .u8 0, .int .u8 0, .int .u8 0, .int .u8 0, .int .u8 0, .int .u8 0, .int .u8 0, .int .u8 0, .int .u8 0, .int .i64 0, .slice none 0 0] rfl rfl _
    (status_place w [.bool false, .bool false, .bool false, .bool false, .bool true, .bool false, .bool false, .int .i64 0, .int .i64 0, .int .i64 0, .int .u8 0, .int .u8 0, .int .u8 0, .int .u8 0, .int .u8 0, .int .u8 0, .int .u8 0, .int .u8 0, .int .u8 0, .int .u8 0, .int .u8 0, .int .u8 0, .int .i64 0, .slice none 0 0] 0 0 2 3 0 0 0 0 0 0 0 0 false false false false false false false 1 0 110 ⟨#[]⟩ ⟨#[]⟩ (some ⟨b, 0, none⟩) 1 [[6]] (by decide) (rows_at h1 h2) rfl 10 _ _ _ _ _ _ hP)).mono ?_
  rintro e w' ⟨v, R, h3, h4, gA, v2, rfl, rfl⟩
  exact ⟨gA, v2, h3, h4⟩
theorem same_awake (w : World) : Calls Tryz.prog 18 #[.agg #[.bool false, .bool false, .bool false, .bool false, .bool true, .bool false, .bool false, .int .i64 0, .int .i64 0, .int .i64 0, .int .u8 0, .int .u8 0, .int .u8 0, .int .u8 0, .int .u8 0, .int .u8 0, .int .u8 0, .int .u8 0, .int .u8 0, .int .u8 0, .int .u8 0, .int .u8 0, .int .i64 0, .slice none 0 0], .agg #[.bool false, .bool false, .bool false, .bool false, .bool true, .bool false, .bool false, .int .i64 0, .int .i64 0, .int .i64 0, .int .u8 0, .int .u8 0, .int .u8 0, .int .u8 0, .int .u8 0, .int .u8 0, .int .u8 0, .int .u8 0, .int .u8 0, .int .u8 0, .int .u8 0, .int .u8 0, .int .i64 0, .slice none 0 0]] w fun e w' => e = .returned (.bool true) ∧ Below w.heap.size w w' :=
  actSame_calls mPaste mPaste z12 z12 rfl rfl 0 0 none none 0 0 [] [] (by decide) (by decide) (by decide) w (noRow w) (noRow w)
attribute [local irreducible] wpList Calls wpQuiet
set_option maxRecDepth 100000 in
set_option maxHeartbeats 8000000 in
theorem awake21_calls (w : World) : Calls Tryz.prog 9 #[] w fun e w' => e = .returned (.bool true) ∧ Below w.heap.size w w' := by
  have HO := Mine.start w
  go_enter Tryz.func9, Tryz.ntmps9
  go_wp2_with (first
    | (go_at_call 12; refine (do_awake1 g10 g11 _ (HO.at (by first | exact .head _ | exact .tail _ (.head _) | exact .tail _ (.tail _ (.head _)))) (HO.at (by first | exact .head _ | exact .tail _ (.head _) | exact .tail _ (.tail _ (.head _))))).mono ?_; rintro eN wN ⟨rfl, hbN⟩; have HON := HO.call hbN; clear HO hbN; have HO := HON; clear HON)
    | (go_at_call 12; refine (do_awake2 g20 g21 _ (HO.at (by first | exact .head _ | exact .tail _ (.head _) | exact .tail _ (.tail _ (.head _)) | exact .tail _ (.tail _ (.tail _ (.head _))) | exact .tail _ (.tail _ (.tail _ (.tail _ (.head _)))))) (HO.at (by first | exact .head _ | exact .tail _ (.head _) | exact .tail _ (.tail _ (.head _)) | exact .tail _ (.tail _ (.tail _ (.head _))) | exact .tail _ (.tail _ (.tail _ (.tail _ (.head _))))))).mono ?_; rintro eN wN ⟨gA, v2, rfl, HM⟩; have HON := HO.join HM; clear HO HM; have HO := HON; clear HON)
    | (go_at_call 18; refine (same_awake _).mono ?_; rintro eN wN ⟨rfl, hbN⟩; have HON := HO.call hbN; clear HO hbN; have HO := HON; clear HON)
    | (first
      | ((with_reducible refine gate ?_); (first
      | ((with_reducible refine gateAt (N := 10) rfl ?_); refine own_litF HO rfl (n := 1) (cs := [.int .i64 2004]) (T := 3) (by first | (go_simp; done) | (go_simp; rfl)) ?_; clear HO; intro g10 wN hgg10 HO; (try simp only [Act.put, List.setIfInBounds_toArray, List.set_cons_zero, List.set_cons_succ]))
      | ((with_reducible refine gateAt (N := 11) rfl ?_); refine own_litF HO rfl (n := 1) (cs := [.slice (some ⟨g10, 0, none⟩) 1 1]) (T := 26) (by first | (go_simp; done) | (go_simp; rfl)) ?_; clear HO; intro g11 wN hgg11 HO; (try simp only [Act.put, List.setIfInBounds_toArray, List.set_cons_zero, List.set_cons_succ]))
      | ((with_reducible refine gateAt (N := 20) rfl ?_); refine own_litF HO rfl (n := 1) (cs := [.int .i64 6]) (T := 3) (by first | (go_simp; done) | (go_simp; rfl)) ?_; clear HO; intro g20 wN hgg20 HO; (try simp only [Act.put, List.setIfInBounds_toArray, List.set_cons_zero, List.set_cons_succ]))
      | ((with_reducible refine gateAt (N := 21) rfl ?_); refine own_litF HO rfl (n := 1) (cs := [.slice (some ⟨g20, 0, none⟩) 1 1]) (T := 26) (by first | (go_simp; done) | (go_simp; rfl)) ?_; clear HO; intro g21 wN hgg21 HO; (try simp only [Act.put, List.setIfInBounds_toArray, List.set_cons_zero, List.set_cons_succ]))
      | ((with_reducible refine gateAt (N := 1) rfl ?_); refine own_allocF (T := 44) HO rfl rfl Tryz.zeroValue44 rfl ?_; clear HO; intro g1 wN hgg1 HO; (try simp only [Act.put, List.setIfInBounds_toArray, List.set_cons_zero, List.set_cons_succ]))
      | ((with_reducible refine gateAt (N := 4) rfl ?_); refine own_allocF (T := 44) HO rfl rfl Tryz.zeroValue44 rfl ?_; clear HO; intro g4 wN hgg4 HO; (try simp only [Act.put, List.setIfInBounds_toArray, List.set_cons_zero, List.set_cons_succ]))
      | ((refine own_load (T := 44) HO rfl rfl rfl (by first | exact .head _ | exact .tail _ (.head _) | exact .tail _ (.tail _ (.head _)) | exact .tail _ (.tail _ (.tail _ (.head _))) | exact .tail _ (.tail _ (.tail _ (.tail _ (.head _)))) | exact .tail _ (.tail _ (.tail _ (.tail _ (.tail _ (.head _))))) | exact .tail _ (.tail _ (.tail _ (.tail _ (.tail _ (.tail _ (.head _))))))) Tryz.isAgg44 Tryz.sizeOf44 (by repeat constructor) ?_); (try simp only [Act.put, List.setIfInBounds_toArray, List.set_cons_zero, List.set_cons_succ]))
      | ((refine own_load1 (T := 4) HO rfl rfl rfl (by first | exact .head _ | exact .tail _ (.head _) | exact .tail _ (.tail _ (.head _)) | exact .tail _ (.tail _ (.tail _ (.head _))) | exact .tail _ (.tail _ (.tail _ (.tail _ (.head _)))) | exact .tail _ (.tail _ (.tail _ (.tail _ (.tail _ (.head _))))) | exact .tail _ (.tail _ (.tail _ (.tail _ (.tail _ (.tail _ (.head _))))))) Tryz.isAgg4 rfl ?_); (try simp only [Act.put, List.setIfInBounds_toArray, List.set_cons_zero, List.set_cons_succ]))
      | ((refine own_load1 (T := 5) HO rfl rfl rfl (by first | exact .head _ | exact .tail _ (.head _) | exact .tail _ (.tail _ (.head _)) | exact .tail _ (.tail _ (.tail _ (.head _))) | exact .tail _ (.tail _ (.tail _ (.tail _ (.head _)))) | exact .tail _ (.tail _ (.tail _ (.tail _ (.tail _ (.head _))))) | exact .tail _ (.tail _ (.tail _ (.tail _ (.tail _ (.tail _ (.head _))))))) Tryz.isAgg5 rfl ?_); (try simp only [Act.put, List.setIfInBounds_toArray, List.set_cons_zero, List.set_cons_succ]))
      | ((refine own_store1 (T := 4) HO rfl rfl rfl (by first | exact .const | exact .tmp rfl | exact .func) (by rfl) (by first | exact .here | exact .there (.here) | exact .there (.there (.here)) | exact .there (.there (.there (.here))) | exact .there (.there (.there (.there (.here)))) | exact .there (.there (.there (.there (.there (.here))))) | exact .there (.there (.there (.there (.there (.there (.here))))))) Tryz.sizeOf4 (by repeat constructor) (by rfl) ?_); clear HO; intro wN HO; (try simp only [Act.put, List.setIfInBounds_toArray, List.set_cons_zero, List.set_cons_succ]))
      | ((refine own_store1 (T := 5) HO rfl rfl rfl (by first | exact .const | exact .tmp rfl | exact .func) (by rfl) (by first | exact .here | exact .there (.here) | exact .there (.there (.here)) | exact .there (.there (.there (.here))) | exact .there (.there (.there (.there (.here)))) | exact .there (.there (.there (.there (.there (.here))))) | exact .there (.there (.there (.there (.there (.there (.here))))))) Tryz.sizeOf5 (by repeat constructor) (by rfl) ?_); clear HO; intro wN HO; (try simp only [Act.put, List.setIfInBounds_toArray, List.set_cons_zero, List.set_cons_succ]))
      | ((refine own_store (T := 44) HO rfl rfl rfl rfl (by first | exact .here | exact .there (.here) | exact .there (.there (.here)) | exact .there (.there (.there (.here))) | exact .there (.there (.there (.there (.here)))) | exact .there (.there (.there (.there (.there (.here))))) | exact .there (.there (.there (.there (.there (.there (.here))))))) Tryz.sizeOf44 (by repeat constructor) rfl ?_); clear HO; intro wN HO; (try simp only [Act.put, List.setIfInBounds_toArray, List.set_cons_zero, List.set_cons_succ]))))))
  go_ret
  exact ⟨by first | rfl | (simp; done), HO.below⟩
end Go.Proofs.YtdmifbffamckbaaGreatDoor
end
section
namespace Go.Proofs.YtdmifbffamckbaaGreatDoor
set_option linter.unusedVariables false
set_option linter.unusedSimpArgs false
open Go.RowKit Kit Go.Proofs.YtdmifbffamckbaaGreatDoorW.PrintWords
theorem grow_len {p : Option Addr} {n c : Nat} {l : List Int} {R : Res} (h : GRow 3 (.slice p n c) (l.map (Value.int .i64)) R) : n = l.length := by rw [h.len, List.length_map]
theorem grow_kd {W0 w : World} {bs : Res} {p : Option Addr} {n c : Nat} {l : List Int} {R : Res} (h : GRow 3 (.slice p n c) (l.map (Value.int .i64)) R) (HO : Mine W0 w (bs ++ R)) : l.length ≤ c ∧ Kd.C (Kd.int .i64) w p l.length l := by
  obtain ⟨h1, h2, h3, h4⟩ := h.reads HO
  rw [List.length_map] at h1 h3
  refine ⟨h3, Kd.C_of_reads (d := (0 : Int)) ⟨rfl, by unfold maxLen at h4; omega, fun h0 => ?_⟩⟩
  have get : ∀ j (hj : j < l.length), (l.map (Value.int .i64))[j]? = some (.int .i64 (l.getD j 0)) := fun j hj => by simp [hj, List.getD]
  obtain ⟨b, o, rfl, _⟩ := h2 0 _ (get 0 h0)
  refine ⟨⟨b, o, none⟩, rfl, fun j hj => ?_⟩
  obtain ⟨b', o', e, hc⟩ := h2 j _ (get j hj)
  injection e with e
  injection e with e1 e2
  subst e1 e2
  have : (⟨b, o, none⟩ : Addr).add j = ⟨b, o + j, none⟩ := by unfold Addr.add; split <;> simp_all
  rw [this]
  exact hc
theorem u8s_one (s : List Int) : (u8s s).all (·.oneCell') = true := by
  rw [List.all_eq_true]
  intro v hv
  obtain ⟨z, _, rfl⟩ := List.mem_map.1 hv
  rfl
theorem stS_one (m : Md) (s : List Int) (x : Int) {K : Value} (h : K.oneCell' = true) : (stS m s x K).all (·.oneCell') = true := by
  unfold stS stM
  rw [List.all_eq_true]
  intro v hv
  simp only [List.mem_cons, List.mem_append, List.not_mem_nil, or_false] at hv
  rcases hv with rfl | rfl | rfl | rfl | rfl | rfl | rfl | rfl | rfl | rfl | hv | rfl | rfl
  case inr.inr.inr.inr.inr.inr.inr.inr.inr.inr.inl => exact List.all_eq_true.1 (u8s_one s) v hv
  all_goals first | rfl | exact h
theorem do_reset (m : Md) (s : List Int) (hs : s.length = 12) (x : Int) (p : Option Addr) (n c : Nat) (w : World) :
    Calls Tryz.prog 12 #[.agg (stS m s x (.slice p n c)).toArray, .agg #[.int .i64 0, .int .i64 0, .int .i64 0, .int .i64 0, .int .i64 0, .int .i64 0, .int .i64 0, .int .i64 0, .int .i64 0, .bool false, .bool false, .bool false, .bool false, .bool false, .bool false, .bool false, .int .i64 0, .int .i64 0, .int .i64 0], .agg #[.int .i64 5, .int .u8 0, .slice none 0 0, .string ⟨#[]⟩, .int .u8 99, .string ⟨#[]⟩]] w fun e w' => e = .returned (.tuple #[.agg #[.bool false, .bool false, .bool false, .bool false, .bool false, .bool false, .bool false, .int .i64 0, .int .i64 0, .int .i64 0, .int .u8 0, .int .u8 0, .int .u8 0, .int .u8 0, .int .u8 0, .int .u8 0, .int .u8 0, .int .u8 0, .int .u8 0, .int .u8 0, .int .u8 0, .int .u8 0, .int .i64 0, .slice none 0 0], .slice none 0 0, .bool true]) ∧ Below w.heap.size w w' :=
  (do_some (stS m s x (.slice p n c)) [.int .i64 0, .int .i64 0, .int .i64 0, .int .i64 0, .int .i64 0, .int .i64 0, .int .i64 0, .int .i64 0, .int .i64 0, .bool false, .bool false, .bool false, .bool false, .bool false, .bool false, .bool false, .int .i64 0, .int .i64 0, .int .i64 0] (stS_len hs) rfl 5 0 99 ⟨#[]⟩ ⟨#[]⟩ none 0 0 ⟨rfl, rfl, by decide, rfl⟩ (.plain 60) rfl (fun h => absurd h.1 (by decide)) w stZero rfl rfl _
    (reset_ok w _ [.int .i64 0, .int .i64 0, .int .i64 0, .int .i64 0, .int .i64 0, .int .i64 0, .int .i64 0, .int .i64 0, .int .i64 0, .bool false, .bool false, .bool false, .bool false, .bool false, .bool false, .bool false, .int .i64 0, .int .i64 0, .int .i64 0] (stS_len hs) 5 0 99 ⟨#[]⟩ ⟨#[]⟩ none 0 0)).mono fun e w' ⟨v, R, h1, h2, h3, h4⟩ => ⟨by rw [h1, h3]; rfl, h2.below⟩
theorem same_zero (w : World) : Calls Tryz.prog 18 #[.agg #[.bool false, .bool false, .bool false, .bool false, .bool false, .bool false, .bool false, .int .i64 0, .int .i64 0, .int .i64 0, .int .u8 0, .int .u8 0, .int .u8 0, .int .u8 0, .int .u8 0, .int .u8 0, .int .u8 0, .int .u8 0, .int .u8 0, .int .u8 0, .int .u8 0, .int .u8 0, .int .i64 0, .slice none 0 0], .agg #[.bool false, .bool false, .bool false, .bool false, .bool false, .bool false, .bool false, .int .i64 0, .int .i64 0, .int .i64 0, .int .u8 0, .int .u8 0, .int .u8 0, .int .u8 0, .int .u8 0, .int .u8 0, .int .u8 0, .int .u8 0, .int .u8 0, .int .u8 0, .int .u8 0, .int .u8 0, .int .i64 0, .slice none 0 0]] w fun e w' => e = .returned (.bool true) ∧ Below w.heap.size w w' :=
  actSame_calls Md.zero Md.zero z12 z12 rfl rfl 0 0 none none 0 0 [] [] (by decide) (by decide) (by decide) w (noRow w) (noRow w)
attribute [local irreducible] wpList Calls wpQuiet
set_option maxRecDepth 100000 in
set_option maxHeartbeats 16000000 in
theorem actReset_calls (mx my : Md) (sx sy : List Int) (hsx : sx.length = 12) (hsy : sy.length = 12) (x y : Int) (Ax Ay : Option Addr) (cx cy : Nat) (lx ly : List Int) (hcx : lx.length ≤ cx) (hcy : ly.length ≤ cy) (w : World) (hrx : Kd.C (Kd.int .i64) w Ax lx.length lx) (hry : Kd.C (Kd.int .i64) w Ay ly.length ly) :
    Calls Tryz.prog 8 #[.agg (stS mx sx x (.slice Ax lx.length cx)).toArray, .agg (stS my sy y (.slice Ay ly.length cy)).toArray] w fun e w' => e = .returned (.bool true) ∧ Below w.heap.size w w' := by
  have HO := Mine.start w
  have HRX := Lib.hid hrx
  have HRY := Lib.hid hry
  have HCX := Lib.hid hcx
  have HCY := Lib.hid hcy
  clear hrx hry hcx hcy
  go_enter Tryz.func8, Tryz.ntmps8
  go_wp2_with (first
    | ((with_reducible refine gateAt (N := 2) rfl ?_); refine own_boxF (T := 30) (cs := (stS mx sx x (.slice Ax lx.length cx))) HO rfl rfl rfl ?_; clear HO; intro g2 wN hgg2 HO; (try simp only [Act.put, List.setIfInBounds_toArray, List.set_cons_zero, List.set_cons_succ]))
    | ((with_reducible refine gateAt (N := 3) rfl ?_); refine own_boxF (T := 30) (cs := (stS my sy y (.slice Ay ly.length cy))) HO rfl rfl rfl ?_; clear HO; intro g3 wN hgg3 HO; (try simp only [Act.put, List.setIfInBounds_toArray, List.set_cons_zero, List.set_cons_succ]))
    | (go_at_call 9; refine (awake21_calls _).mono ?_; rintro eN wN ⟨rfl, hbN⟩; have HON := HO.call hbN; clear HO hbN; have HO := HON; clear HON)
    | (go_at_call 11; refine (tame_calls mx sx hsx x Ax cx lx HCX.out _ (Kd.C_below HRX.out HO.below)).mono ?_; rintro eN wN ⟨px, nx, ax, Rx, rfl, hGx, HM⟩; obtain rfl := grow_len hGx; have HGX := Lib.hid hGx; clear hGx; have HON := HO.join HM; clear HO HM; have HO := HON; clear HON)
    | (go_at_call 11; refine (tame_calls my sy hsy y Ay cy ly HCY.out _ (Kd.C_below HRY.out HO.below)).mono ?_; rintro eN wN ⟨py, ny, ay, Ry, rfl, hGy, HM⟩; obtain rfl := grow_len hGy; have HGY := Lib.hid hGy; clear hGy; have HON := HO.join HM; clear HO HM; have HO := HON; clear HON)
    | (go_at_call 13; refine (made_calls mx sx hsx (flagsI x) px _ ax _).mono ?_; rintro eN wN ⟨rfl, hbN⟩; have HON := HO.call hbN; clear HO hbN; have HO := HON; clear HON)
    | (go_at_call 12; refine (do_reset mx sx hsx (flagsI x) px _ ax _).mono ?_; rintro eN wN ⟨rfl, hbN⟩; have HON := HO.call hbN; clear HO hbN; have HO := HON; clear HON)
    | ((with_reducible refine gate ?_); (first
      | ((refine own_load (T := 30) (vs := (stS mx sx x (.slice Ax lx.length cx))) HO rfl rfl rfl (by first | exact .head _ | exact .tail _ (.head _) | exact .tail _ (.tail _ (.head _)) | exact .tail _ (.tail _ (.tail _ (.head _))) | exact .tail _ (.tail _ (.tail _ (.tail _ (.head _)))) | exact .tail _ (.tail _ (.tail _ (.tail _ (.tail _ (.head _))))) | exact .tail _ (.tail _ (.tail _ (.tail _ (.tail _ (.tail _ (.head _)))))) | exact .tail _ (.tail _ (.tail _ (.tail _ (.tail _ (.tail _ (.tail _ (.head _)))))))) Tryz.isAgg30 Tryz.sizeOf30 (Slc.fullN (stS_len hsx)) ?_); (try simp only [Act.put, List.setIfInBounds_toArray, List.set_cons_zero, List.set_cons_succ]))
      | ((refine own_load (T := 30) (vs := (stS my sy y (.slice Ay ly.length cy))) HO rfl rfl rfl (by first | exact .head _ | exact .tail _ (.head _) | exact .tail _ (.tail _ (.head _)) | exact .tail _ (.tail _ (.tail _ (.head _))) | exact .tail _ (.tail _ (.tail _ (.tail _ (.head _)))) | exact .tail _ (.tail _ (.tail _ (.tail _ (.tail _ (.head _))))) | exact .tail _ (.tail _ (.tail _ (.tail _ (.tail _ (.tail _ (.head _)))))) | exact .tail _ (.tail _ (.tail _ (.tail _ (.tail _ (.tail _ (.tail _ (.head _)))))))) Tryz.isAgg30 Tryz.sizeOf30 (Slc.fullN (stS_len hsy)) ?_); (try simp only [Act.put, List.setIfInBounds_toArray, List.set_cons_zero, List.set_cons_succ]))
      | ((refine own_store (T := 30) (vs := (stS mx sx (flagsI x) (.slice px (tameL lx).length ax))) HO rfl rfl rfl rfl (by first | exact .here | exact .there (.here) | exact .there (.there (.here)) | exact .there (.there (.there (.here))) | exact .there (.there (.there (.there (.here)))) | exact .there (.there (.there (.there (.there (.here))))) | exact .there (.there (.there (.there (.there (.there (.here)))))) | exact .there (.there (.there (.there (.there (.there (.there (.here)))))))) (size_at (stS_len hsx) Tryz.sizeOf30) (PutAt.full (by rw [stS_len hsx, stS_len hsx])) (stS_one _ _ _ rfl) ?_); clear HO; intro wN HO; (try simp only [Act.put, List.setIfInBounds_toArray, List.set_cons_zero, List.set_cons_succ]))
      | ((refine own_store (T := 30) (vs := (stS my sy (flagsI y) (.slice py (tameL ly).length ay))) HO rfl rfl rfl rfl (by first | exact .here | exact .there (.here) | exact .there (.there (.here)) | exact .there (.there (.there (.here))) | exact .there (.there (.there (.there (.here)))) | exact .there (.there (.there (.there (.there (.here))))) | exact .there (.there (.there (.there (.there (.there (.here)))))) | exact .there (.there (.there (.there (.there (.there (.there (.here)))))))) (size_at (stS_len hsy) Tryz.sizeOf30) (PutAt.full (by rw [stS_len hsy, stS_len hsy])) (stS_one _ _ _ rfl) ?_); clear HO; intro wN HO; (try simp only [Act.put, List.setIfInBounds_toArray, List.set_cons_zero, List.set_cons_succ]))
      | ((refine own_load (T := 30) (vs := (stS mx sx (flagsI x) (.slice px (tameL lx).length ax))) HO rfl rfl rfl (by first | exact .head _ | exact .tail _ (.head _) | exact .tail _ (.tail _ (.head _)) | exact .tail _ (.tail _ (.tail _ (.head _))) | exact .tail _ (.tail _ (.tail _ (.tail _ (.head _)))) | exact .tail _ (.tail _ (.tail _ (.tail _ (.tail _ (.head _))))) | exact .tail _ (.tail _ (.tail _ (.tail _ (.tail _ (.tail _ (.head _)))))) | exact .tail _ (.tail _ (.tail _ (.tail _ (.tail _ (.tail _ (.tail _ (.head _)))))))) Tryz.isAgg30 Tryz.sizeOf30 (Slc.fullN (stS_len hsx)) ?_); (try simp only [Act.put, List.setIfInBounds_toArray, List.set_cons_zero, List.set_cons_succ]))))
    | (first
      | ((with_reducible refine gate ?_); (first
      | ((with_reducible refine gateAt (N := 6) rfl ?_); refine own_allocF (T := 44) HO rfl rfl Tryz.zeroValue44 rfl ?_; clear HO; intro g6 wN hgg6 HO; (try simp only [Act.put, List.setIfInBounds_toArray, List.set_cons_zero, List.set_cons_succ]))
      | ((refine own_load (T := 44) HO rfl rfl rfl (by first | exact .head _) Tryz.isAgg44 Tryz.sizeOf44 (by repeat constructor) ?_); (try simp only [Act.put, List.setIfInBounds_toArray, List.set_cons_zero, List.set_cons_succ]))
      | ((refine own_store (T := 44) HO rfl rfl rfl rfl (by first | exact .here) Tryz.sizeOf44 (by repeat constructor) rfl ?_); clear HO; intro wN HO; (try simp only [Act.put, List.setIfInBounds_toArray, List.set_cons_zero, List.set_cons_succ]))))))
  obtain ⟨e, he⟩ : ∃ e, (decide (mx = my) && (decide (sx = sy) && (decide (flagsI x = flagsI y) && decide (tameL lx = tameL ly)))) = e := ⟨_, rfl⟩
  have hx1 := grow_kd (bs := [_, _, _]) HGX.out (show Mine w wN (([_, _, _] ++ Rx) ++ Ry) from HO).left
  have hy1 := grow_kd (bs := [_, _, _] ++ Rx) HGY.out (show Mine w wN (([_, _, _] ++ Rx) ++ Ry) from HO)
  have h8x : (tameL lx).length ≤ 4611686018427387904 := Nat.le_trans (tameL_len lx) (by decide)
  have hs1 := fun W (hW : Below _ _ W) => actSame_calls mx my sx sy hsx hsy (flagsI x) (flagsI y) px py ax ay (tameL lx) (tameL ly) hx1.1 hy1.1 h8x W (Kd.C_below hx1.2 hW) (Kd.C_below hy1.2 hW)
  have hs2 := fun W (hW : Below _ _ W) => refSame_calls mx my sx sy hsx hsy (flagsI x) (flagsI y) px py ax ay (tameL lx) (tameL ly) hx1.1 hy1.1 h8x W (Kd.C_below hx1.2 hW) (Kd.C_below hy1.2 hW)
  have hs3 := fun W (hW : Below _ _ W) => actSame_calls mx mx sx sx hsx hsx (flagsI x) (flagsI x) px px ax ax (tameL lx) (tameL lx) hx1.1 hx1.1 h8x W (Kd.C_below hx1.2 hW) (Kd.C_below hx1.2 hW)
  rw [he] at hs1 hs2
  simp only [decide_true, Bool.and_true] at hs3
  have HS1 := Lib.hid hs1
  have HS2 := Lib.hid hs2
  have HS3 := Lib.hid hs3
  clear hs1 hs2 hs3 hx1 hy1 h8x he HGX HGY HRX HRY HCX HCY
  refine region_law 33 [fIs (.bool true), fIs (.bool true), fIs (.bool true), fIs (.bool true), fIs (.bool true), fIs (.slice none 0 0), fIs (.int .i64 0), fIs (.bool true), fIs (.bool true), fIs (.bool true), fIs (.agg #[.bool false, .bool false, .bool false, .bool false, .bool false, .bool false, .bool false, .int .i64 0, .int .i64 0, .int .i64 0, .int .u8 0, .int .u8 0, .int .u8 0, .int .u8 0, .int .u8 0, .int .u8 0, .int .u8 0, .int .u8 0, .int .u8 0, .int .u8 0, .int .u8 0, .int .u8 0, .int .i64 0, .slice none 0 0]), fIs (.agg #[.bool false, .bool false, .bool false, .bool false, .bool false, .bool false, .bool false, .int .i64 0, .int .i64 0, .int .i64 0, .int .u8 0, .int .u8 0, .int .u8 0, .int .u8 0, .int .u8 0, .int .u8 0, .int .u8 0, .int .u8 0, .int .u8 0, .int .u8 0, .int .u8 0, .int .u8 0, .int .i64 0, .slice none 0 0]), fIs (.bool true), fIs (.bool true), fIs (.bool true), fIs (.agg (stS mx sx (flagsI x) (.slice px (tameL lx).length ax)).toArray), fIs (.agg (stS mx sx (flagsI x) (.slice px (tameL lx).length ax)).toArray), fIs (.agg (stS my sy (flagsI y) (.slice py (tameL ly).length ay)).toArray), fIs (.agg (stS my sy (flagsI y) (.slice py (tameL ly).length ay)).toArray), fIs (.bool e), fIs (.agg (stS mx sx (flagsI x) (.slice px (tameL lx).length ax)).toArray), fIs (.agg (stS my sy (flagsI y) (.slice py (tameL ly).length ay)).toArray), fIs (.bool e), fIs (.bool true), fIs (.bool true), fIs (.bool true), fIs (.agg (stS mx sx (flagsI x) (.slice px (tameL lx).length ax)).toArray), fIs (.agg (stS mx sx (flagsI x) (.slice px (tameL lx).length ax)).toArray), fIs (.agg (stS mx sx (flagsI x) (.slice px (tameL lx).length ax)).toArray), fIs (.agg (stS mx sx (flagsI x) (.slice px (tameL lx).length ax)).toArray), fIs (.bool true), fIs (.bool true), fIs (.bool true)] HO (by kernel_rfl) (by kernel_rfl) (by decide) (by kernel_rfl)
    (stays_cons (Stays.fIs _) (stays_cons (Stays.fIs _) (stays_cons (Stays.fIs _) (stays_cons (Stays.fIs _) (stays_cons (Stays.fIs _) (stays_cons (Stays.fIs _) (stays_cons (Stays.fIs _) (stays_cons (Stays.fIs _) (stays_cons (Stays.fIs _) (stays_cons (Stays.fIs _) (stays_cons (Stays.fIs _) (stays_cons (Stays.fIs _) (stays_cons (Stays.fIs _) (stays_cons (Stays.fIs _) (stays_cons (Stays.fIs _) (stays_cons (Stays.fIs _) (stays_cons (Stays.fIs _) (stays_cons (Stays.fIs _) (stays_cons (Stays.fIs _) (stays_cons (Stays.fIs _) (stays_cons (Stays.fIs _) (stays_cons (Stays.fIs _) (stays_cons (Stays.fIs _) (stays_cons (Stays.fIs _) (stays_cons (Stays.fIs _) (stays_cons (Stays.fIs _) (stays_cons (Stays.fIs _) (stays_cons (Stays.fIs _) (stays_cons (Stays.fIs _) (stays_cons (Stays.fIs _) (stays_cons (Stays.fIs _) (stays_cons (Stays.fIs _) (stays_cons (Stays.fIs _) stays_nil))))))))))))))))))))))))))))))))) ?_
  intro vals A hA
  simp [fillL, dstOf, List.range, List.range.loop, Act.put] at hA
  subst hA
  refine ⟨⟨?_, ?_, ?_, ?_, ?_, ?_, ?_, ?_, ?_, ?_, ?_, ?_, ?_, ?_, ?_, ?_, ?_, ?_, ?_, ?_, ?_, ?_, ?_, ?_, ?_, ?_, ?_, ?_, ?_, ?_, ?_, ?_, ?_, trivial⟩, ?_⟩
  all_goals intro W hd hM hb0
  case refine_1 =>
    skip
    exact st_val rfl (by simp only [execOp]; first | (go_simp; done) | (go_simp; rfl)) rfl
  case refine_2 =>
    have v0 : vals 0 = .bool true := hd 0 (by kernel_rfl)
    rw [v0]
    exact st_val rfl (by simp only [execOp]; first | (go_simp; done) | (go_simp; rfl)) rfl
  case refine_3 =>
    have v1 : vals 1 = .bool true := hd 1 (by kernel_rfl)
    rw [v1]
    exact st_val rfl (by simp only [execOp]; first | (go_simp; done) | (go_simp; rfl)) rfl
  case refine_4 =>
    have v1 : vals 1 = .bool true := hd 1 (by kernel_rfl)
    have v2 : vals 2 = .bool true := hd 2 (by kernel_rfl)
    rw [v1, v2]
    exact st_val rfl (by simp only [execOp]; first | (go_simp; done) | (go_simp; rfl)) rfl
  case refine_5 =>
    have v1 : vals 1 = .bool true := hd 1 (by kernel_rfl)
    have v3 : vals 3 = .bool true := hd 3 (by kernel_rfl)
    rw [v1, v3]
    exact st_val rfl (by simp only [execOp]; first | (go_simp; done) | (go_simp; rfl)) rfl
  case refine_6 =>
    have v4 : vals 4 = .bool true := hd 4 (by kernel_rfl)
    rw [v4]
    exact st_val rfl (by simp only [execOp]; first | (go_simp; done) | (go_simp; rfl)) rfl
  case refine_7 =>
    have v4 : vals 4 = .bool true := hd 4 (by kernel_rfl)
    have v5 : vals 5 = .slice none 0 0 := hd 5 (by kernel_rfl)
    rw [v4, v5]
    exact st_val rfl (by simp only [execOp]; first | (go_simp; done) | (go_simp; rfl)) rfl
  case refine_8 =>
    have v4 : vals 4 = .bool true := hd 4 (by kernel_rfl)
    have v6 : vals 6 = .int .i64 0 := hd 6 (by kernel_rfl)
    rw [v4, v6]
    exact st_val rfl (by simp only [execOp]; first | (go_simp; done) | (go_simp; rfl)) rfl
  case refine_9 =>
    have v4 : vals 4 = .bool true := hd 4 (by kernel_rfl)
    have v7 : vals 7 = .bool true := hd 7 (by kernel_rfl)
    rw [v4, v7]
    exact st_val rfl (by simp only [execOp]; first | (go_simp; done) | (go_simp; rfl)) rfl
  case refine_10 =>
    have v4 : vals 4 = .bool true := hd 4 (by kernel_rfl)
    have v8 : vals 8 = .bool true := hd 8 (by kernel_rfl)
    rw [v4, v8]
    exact st_val rfl (by simp only [execOp]; first | (go_simp; done) | (go_simp; rfl)) rfl
  case refine_11 =>
    have v9 : vals 9 = .bool true := hd 9 (by kernel_rfl)
    rw [v9]
    exact st_load hM rfl rfl rfl (by first | exact .head _ | exact .tail _ (.head _) | exact .tail _ (.tail _ (.head _)) | exact .tail _ (.tail _ (.tail _ (.head _))) | exact .tail _ (.tail _ (.tail _ (.tail _ (.head _)))) | exact .tail _ (.tail _ (.tail _ (.tail _ (.tail _ (.head _))))) | exact .tail _ (.tail _ (.tail _ (.tail _ (.tail _ (.tail _ (.head _)))))) | exact .tail _ (.tail _ (.tail _ (.tail _ (.tail _ (.tail _ (.tail _ (.head _)))))))) Tryz.isAgg44 Tryz.sizeOf44 (by repeat constructor) rfl
  case refine_12 =>
    have v9 : vals 9 = .bool true := hd 9 (by kernel_rfl)
    rw [v9]
    exact st_val rfl (by simp only [execOp]; first | (go_simp; done) | (go_simp; rfl)) rfl
  case refine_13 =>
    have v9 : vals 9 = .bool true := hd 9 (by kernel_rfl)
    have v10 : vals 10 = .agg #[.bool false, .bool false, .bool false, .bool false, .bool false, .bool false, .bool false, .int .i64 0, .int .i64 0, .int .i64 0, .int .u8 0, .int .u8 0, .int .u8 0, .int .u8 0, .int .u8 0, .int .u8 0, .int .u8 0, .int .u8 0, .int .u8 0, .int .u8 0, .int .u8 0, .int .u8 0, .int .i64 0, .slice none 0 0] := hd 10 (by kernel_rfl)
    have v11 : vals 11 = .agg #[.bool false, .bool false, .bool false, .bool false, .bool false, .bool false, .bool false, .int .i64 0, .int .i64 0, .int .i64 0, .int .u8 0, .int .u8 0, .int .u8 0, .int .u8 0, .int .u8 0, .int .u8 0, .int .u8 0, .int .u8 0, .int .u8 0, .int .u8 0, .int .u8 0, .int .u8 0, .int .i64 0, .slice none 0 0] := hd 11 (by kernel_rfl)
    rw [v9, v10, v11]
    exact st_call rfl (by simp only [execOp]; first | (go_simp; done) | (go_simp; rfl)) (same_zero W) (by rintro e w' ⟨rfl, hb⟩; exact ⟨_, rfl, hb, rfl⟩)
  case refine_14 =>
    have v9 : vals 9 = .bool true := hd 9 (by kernel_rfl)
    have v12 : vals 12 = .bool true := hd 12 (by kernel_rfl)
    rw [v9, v12]
    exact st_val rfl (by simp only [execOp]; first | (go_simp; done) | (go_simp; rfl)) rfl
  case refine_15 =>
    have v12 : vals 12 = .bool true := hd 12 (by kernel_rfl)
    have v13 : vals 13 = .bool true := hd 13 (by kernel_rfl)
    rw [v12, v13]
    exact st_val rfl (by simp only [execOp]; first | (go_simp; done) | (go_simp; rfl)) rfl
  case refine_16 =>
    have v14 : vals 14 = .bool true := hd 14 (by kernel_rfl)
    rw [v14]
    exact st_load (vs := (stS mx sx (flagsI x) (.slice px (tameL lx).length ax))) hM rfl rfl rfl (by first | exact .head _ | exact .tail _ (.head _) | exact .tail _ (.tail _ (.head _)) | exact .tail _ (.tail _ (.tail _ (.head _))) | exact .tail _ (.tail _ (.tail _ (.tail _ (.head _)))) | exact .tail _ (.tail _ (.tail _ (.tail _ (.tail _ (.head _))))) | exact .tail _ (.tail _ (.tail _ (.tail _ (.tail _ (.tail _ (.head _)))))) | exact .tail _ (.tail _ (.tail _ (.tail _ (.tail _ (.tail _ (.tail _ (.head _)))))))) Tryz.isAgg30 Tryz.sizeOf30 (Slc.fullN (stS_len hsx)) rfl
  case refine_17 =>
    have v14 : vals 14 = .bool true := hd 14 (by kernel_rfl)
    have v15 : vals 15 = .agg (stS mx sx (flagsI x) (.slice px (tameL lx).length ax)).toArray := hd 15 (by kernel_rfl)
    rw [v14, v15]
    exact st_call rfl (by simp only [execOp]; first | (go_simp; done) | (go_simp; rfl)) (made_calls mx sx hsx (flagsI x) px _ ax W) (by rintro e w' ⟨rfl, hb⟩; exact ⟨_, rfl, hb, rfl⟩)
  case refine_18 =>
    have v14 : vals 14 = .bool true := hd 14 (by kernel_rfl)
    rw [v14]
    exact st_load (vs := (stS my sy (flagsI y) (.slice py (tameL ly).length ay))) hM rfl rfl rfl (by first | exact .head _ | exact .tail _ (.head _) | exact .tail _ (.tail _ (.head _)) | exact .tail _ (.tail _ (.tail _ (.head _))) | exact .tail _ (.tail _ (.tail _ (.tail _ (.head _)))) | exact .tail _ (.tail _ (.tail _ (.tail _ (.tail _ (.head _))))) | exact .tail _ (.tail _ (.tail _ (.tail _ (.tail _ (.tail _ (.head _)))))) | exact .tail _ (.tail _ (.tail _ (.tail _ (.tail _ (.tail _ (.tail _ (.head _)))))))) Tryz.isAgg30 Tryz.sizeOf30 (Slc.fullN (stS_len hsy)) rfl
  case refine_19 =>
    have v14 : vals 14 = .bool true := hd 14 (by kernel_rfl)
    have v16 : vals 16 = .agg (stS mx sx (flagsI x) (.slice px (tameL lx).length ax)).toArray := hd 16 (by kernel_rfl)
    have v17 : vals 17 = .agg (stS my sy (flagsI y) (.slice py (tameL ly).length ay)).toArray := hd 17 (by kernel_rfl)
    rw [v14, v16, v17]
    exact st_call rfl (by simp only [execOp]; first | (go_simp; done) | (go_simp; rfl)) (made_calls my sy hsy (flagsI y) py _ ay W) (by rintro e w' ⟨rfl, hb⟩; exact ⟨_, rfl, hb, rfl⟩)
  case refine_20 =>
    have v14 : vals 14 = .bool true := hd 14 (by kernel_rfl)
    have v16 : vals 16 = .agg (stS mx sx (flagsI x) (.slice px (tameL lx).length ax)).toArray := hd 16 (by kernel_rfl)
    have v18 : vals 18 = .agg (stS my sy (flagsI y) (.slice py (tameL ly).length ay)).toArray := hd 18 (by kernel_rfl)
    rw [v14, v16, v18]
    exact st_call rfl (by simp only [execOp]; first | (go_simp; done) | (go_simp; rfl)) (HS1.out W hb0) (by rintro e w' ⟨rfl, hb⟩; exact ⟨_, rfl, hb, rfl⟩)
  case refine_21 =>
    have v14 : vals 14 = .bool true := hd 14 (by kernel_rfl)
    rw [v14]
    exact st_load (vs := (stS mx sx (flagsI x) (.slice px (tameL lx).length ax))) hM rfl rfl rfl (by first | exact .head _ | exact .tail _ (.head _) | exact .tail _ (.tail _ (.head _)) | exact .tail _ (.tail _ (.tail _ (.head _))) | exact .tail _ (.tail _ (.tail _ (.tail _ (.head _)))) | exact .tail _ (.tail _ (.tail _ (.tail _ (.tail _ (.head _))))) | exact .tail _ (.tail _ (.tail _ (.tail _ (.tail _ (.tail _ (.head _)))))) | exact .tail _ (.tail _ (.tail _ (.tail _ (.tail _ (.tail _ (.tail _ (.head _)))))))) Tryz.isAgg30 Tryz.sizeOf30 (Slc.fullN (stS_len hsx)) rfl
  case refine_22 =>
    have v14 : vals 14 = .bool true := hd 14 (by kernel_rfl)
    rw [v14]
    exact st_load (vs := (stS my sy (flagsI y) (.slice py (tameL ly).length ay))) hM rfl rfl rfl (by first | exact .head _ | exact .tail _ (.head _) | exact .tail _ (.tail _ (.head _)) | exact .tail _ (.tail _ (.tail _ (.head _))) | exact .tail _ (.tail _ (.tail _ (.tail _ (.head _)))) | exact .tail _ (.tail _ (.tail _ (.tail _ (.tail _ (.head _))))) | exact .tail _ (.tail _ (.tail _ (.tail _ (.tail _ (.tail _ (.head _)))))) | exact .tail _ (.tail _ (.tail _ (.tail _ (.tail _ (.tail _ (.tail _ (.head _)))))))) Tryz.isAgg30 Tryz.sizeOf30 (Slc.fullN (stS_len hsy)) rfl
  case refine_23 =>
    have v14 : vals 14 = .bool true := hd 14 (by kernel_rfl)
    have v19 : vals 19 = .bool e := hd 19 (by kernel_rfl)
    have v20 : vals 20 = .agg (stS mx sx (flagsI x) (.slice px (tameL lx).length ax)).toArray := hd 20 (by kernel_rfl)
    have v21 : vals 21 = .agg (stS my sy (flagsI y) (.slice py (tameL ly).length ay)).toArray := hd 21 (by kernel_rfl)
    rw [v14, v19, v20, v21]
    exact st_call rfl (by simp only [execOp]; first | (go_simp; done) | (go_simp; rfl)) (HS2.out W hb0) (by rintro e w' ⟨rfl, hb⟩; exact ⟨_, rfl, hb, rfl⟩)
  case refine_24 =>
    have v14 : vals 14 = .bool true := hd 14 (by kernel_rfl)
    have v19 : vals 19 = .bool e := hd 19 (by kernel_rfl)
    have v22 : vals 22 = .bool e := hd 22 (by kernel_rfl)
    rw [v14, v19, v22]
    cases e <;> exact st_val rfl (by simp only [execOp]; first | (go_simp; done) | (go_simp; rfl)) rfl
  case refine_25 =>
    have v14 : vals 14 = .bool true := hd 14 (by kernel_rfl)
    have v23 : vals 23 = .bool true := hd 23 (by kernel_rfl)
    rw [v14, v23]
    exact st_val rfl (by simp only [execOp]; first | (go_simp; done) | (go_simp; rfl)) rfl
  case refine_26 =>
    have v22 : vals 22 = .bool e := hd 22 (by kernel_rfl)
    have v24 : vals 24 = .bool true := hd 24 (by kernel_rfl)
    rw [v22, v24]
    exact st_val rfl (by simp only [execOp]; first | (go_simp; done) | (go_simp; rfl)) rfl
  case refine_27 =>
    have v25 : vals 25 = .bool true := hd 25 (by kernel_rfl)
    rw [v25]
    exact st_load (vs := (stS mx sx (flagsI x) (.slice px (tameL lx).length ax))) hM rfl rfl rfl (by first | exact .head _ | exact .tail _ (.head _) | exact .tail _ (.tail _ (.head _)) | exact .tail _ (.tail _ (.tail _ (.head _))) | exact .tail _ (.tail _ (.tail _ (.tail _ (.head _)))) | exact .tail _ (.tail _ (.tail _ (.tail _ (.tail _ (.head _))))) | exact .tail _ (.tail _ (.tail _ (.tail _ (.tail _ (.tail _ (.head _)))))) | exact .tail _ (.tail _ (.tail _ (.tail _ (.tail _ (.tail _ (.tail _ (.head _)))))))) Tryz.isAgg30 Tryz.sizeOf30 (Slc.fullN (stS_len hsx)) rfl
  case refine_28 =>
    have v25 : vals 25 = .bool true := hd 25 (by kernel_rfl)
    have v26 : vals 26 = .agg (stS mx sx (flagsI x) (.slice px (tameL lx).length ax)).toArray := hd 26 (by kernel_rfl)
    rw [v25, v26]
    exact st_call rfl (by simp only [execOp]; first | (go_simp; done) | (go_simp; rfl)) (made_calls mx sx hsx (flagsI x) px _ ax W) (by rintro e w' ⟨rfl, hb⟩; exact ⟨_, rfl, hb, rfl⟩)
  case refine_29 =>
    have v25 : vals 25 = .bool true := hd 25 (by kernel_rfl)
    rw [v25]
    exact st_load (vs := (stS mx sx (flagsI x) (.slice px (tameL lx).length ax))) hM rfl rfl rfl (by first | exact .head _ | exact .tail _ (.head _) | exact .tail _ (.tail _ (.head _)) | exact .tail _ (.tail _ (.tail _ (.head _))) | exact .tail _ (.tail _ (.tail _ (.tail _ (.head _)))) | exact .tail _ (.tail _ (.tail _ (.tail _ (.tail _ (.head _))))) | exact .tail _ (.tail _ (.tail _ (.tail _ (.tail _ (.tail _ (.head _)))))) | exact .tail _ (.tail _ (.tail _ (.tail _ (.tail _ (.tail _ (.tail _ (.head _)))))))) Tryz.isAgg30 Tryz.sizeOf30 (Slc.fullN (stS_len hsx)) rfl
  case refine_30 =>
    have v25 : vals 25 = .bool true := hd 25 (by kernel_rfl)
    have v27 : vals 27 = .agg (stS mx sx (flagsI x) (.slice px (tameL lx).length ax)).toArray := hd 27 (by kernel_rfl)
    have v28 : vals 28 = .agg (stS mx sx (flagsI x) (.slice px (tameL lx).length ax)).toArray := hd 28 (by kernel_rfl)
    rw [v25, v27, v28]
    exact st_call rfl (by simp only [execOp]; first | (go_simp; done) | (go_simp; rfl)) (made_calls mx sx hsx (flagsI x) px _ ax W) (by rintro e w' ⟨rfl, hb⟩; exact ⟨_, rfl, hb, rfl⟩)
  case refine_31 =>
    have v25 : vals 25 = .bool true := hd 25 (by kernel_rfl)
    have v27 : vals 27 = .agg (stS mx sx (flagsI x) (.slice px (tameL lx).length ax)).toArray := hd 27 (by kernel_rfl)
    have v29 : vals 29 = .agg (stS mx sx (flagsI x) (.slice px (tameL lx).length ax)).toArray := hd 29 (by kernel_rfl)
    rw [v25, v27, v29]
    exact st_call rfl (by simp only [execOp]; first | (go_simp; done) | (go_simp; rfl)) (HS3.out W hb0) (by rintro e w' ⟨rfl, hb⟩; exact ⟨_, rfl, hb, rfl⟩)
  case refine_32 =>
    have v25 : vals 25 = .bool true := hd 25 (by kernel_rfl)
    have v30 : vals 30 = .bool true := hd 30 (by kernel_rfl)
    rw [v25, v30]
    exact st_val rfl (by simp only [execOp]; first | (go_simp; done) | (go_simp; rfl)) rfl
  case refine_33 =>
    have v30 : vals 30 = .bool true := hd 30 (by kernel_rfl)
    have v31 : vals 31 = .bool true := hd 31 (by kernel_rfl)
    rw [v30, v31]
    exact st_val rfl (by simp only [execOp]; first | (go_simp; done) | (go_simp; rfl)) rfl
  case refine_34 =>
    have v32 : vals 32 = .bool true := hd 32 (by omega)
    rw [v32]
    simp only [List.drop_succ_cons, List.drop_zero]
    clear hd hb0
    go_wp2
    go_ret
    exact ⟨rfl, hM.below⟩
end Go.Proofs.YtdmifbffamckbaaGreatDoor
end
