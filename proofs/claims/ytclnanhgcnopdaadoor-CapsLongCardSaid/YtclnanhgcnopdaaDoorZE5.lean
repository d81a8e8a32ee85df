/- E: texts run together by shake.py: KitO CaA CaP CaH CaU CaV. -/
import Derived.ArgAppend
import Derived.Below
import Derived.BigQuiet
import Derived.ChangeOld
import Derived.ChangeSlices
import Derived.Deep.AppendLies
import Derived.Deep.CutBlock
import Derived.Deep.DeepCutAuto
import Derived.Deep.DrawnRows
import Derived.Deep.Draws
import Derived.Deep.LoopGhost
import Derived.Deep.OwnRows
import Derived.Deep.Quiet
import Derived.Deep.QuietTactic
import Derived.Deep.RegionHeld3
import Derived.Ground.GgzProg
import Derived.KernelRfl
import Derived.Laws.AppendOwn
import Derived.Laws.AppendOwnNone
import Derived.Laws.BitsAllLaws
import Derived.Laws.BitsLemmas
import Derived.Laws.BytesArg
import Derived.Laws.CopyRow
import Derived.Laws.IdiomCopy
import Derived.Laws.IdiomStrings
import Derived.Laws.MakeOwn
import Derived.Laws.OwnMore
import Derived.Laws.RangeAny
import Derived.Laws.Rows
import Derived.Laws.Slices
import Derived.Laws.StructEq
import Derived.Laws.Tables
import Derived.Lib.AppendStr
import Derived.Lib.ConvBytes
import Derived.Lib.Hide
import Derived.Lib.ItoaNum
import Derived.Lib.OthersKept
import Derived.Lib.SlKeysI
import Derived.Lib.TrimU
import Derived.MapKept
import Derived.Maps.AppendAt
import Derived.Maps.Own
import Derived.OpenShut
import Derived.Orders
import Derived.OrdersHeld
import Derived.OrdersIn
import Derived.Outline
import Derived.OwnWalk
import Derived.ProofKit
import Derived.RangeFuncCalls
import Derived.RangeFuncNested
import Derived.RangeFuncWrites
import Derived.RowKit
import Derived.RowKit3
import Derived.Shelf.LaysM
import Derived.Shelf.SlIter.Nil
import Derived.Shelf.Slices.Empties2
import Derived.Shelf.Slices.Equal
import Derived.Shelf.Slices.In.SortNone
import Derived.Shelf.Small.Bits
import Derived.Shelf.Small.Strs
import Derived.Shelf.Small.Utf8
import Derived.Shelf.Sort.Plain
import Derived.Shelf.SortM.Plain
import Derived.Shelf.SortM.SortNone
import Derived.Shelf.Strconv.Itoa0
import Derived.Shelf.Strings.Builder1
import Derived.Shelf.Strings.Builder2
import Derived.Shelf.Strings.Builder2Cap
import Derived.Shelf.Strings.BuilderCap
import Derived.Shelf.Strings.BuilderF
import Derived.Shelf.Strings.BuilderK
import Derived.Shelf.Strings.Cut
import Derived.Shelf.Strings.OnBuilder
import Derived.Shelf.Strings.Runes
import Derived.Shelf.Strings.Search1
import Derived.Shelf.Strings.Search2
import Derived.Shelf.Strings.Search3
import Derived.Shelf.Strings.Shaped
import Derived.Shelf.Unicode.Decode
import Derived.Shelf.Unicode.DecodeAny
import Derived.Shelf.Unicode.DecodeSlow
import Derived.ShutString
import Derived.SizedLaws
import Derived.Still
import Derived.Tactics
import Derived.TacticsIn
import Derived.Test.YtclnanhgcnopdaaDoorProg
import Derived.WalkKit
import Derived.WalkLawsBesides
import Derived.WalkSpells
import Derived.WideLaws
import Derived.Test.YtclnanhgcnopdaaDoorZE1
import Derived.Test.YtclnanhgcnopdaaDoorZE2
import Derived.Test.YtclnanhgcnopdaaDoorZE3
import Derived.Test.YtclnanhgcnopdaaDoorZE4
section
namespace Go.Proofs.YtclnanhgcnopdaaDoor
open Go.ChangeShapes Go.WideShapes Go.ChangeAt Go.RowKit Go.Proofs.YtclnanhgcnopdaaDoorW.PrintWords Kit
set_option linter.unusedVariables false
set_option maxRecDepth 100000
set_option linter.unusedSimpArgs false
theorem u16In {x : Int} (h : (Lit.int .u16 x).wf = true) : 0 ≤ x ∧ x < 65536 := by
  simp [Lit.wf, IntKind.min, IntKind.max, IntKind.signed, IntKind.bits] at h
  omega
end Go.Proofs.YtclnanhgcnopdaaDoor
end
section
namespace Go.Proofs.YtclnanhgcnopdaaDoor
set_option linter.unusedVariables false
set_option linter.unusedSimpArgs false
open Go.RowKit Kit Go.Shelf Go.Proofs.YtclnanhgcnopdaaDoorW.PrintWords
attribute [local go_sem] Oper.semAt_some
theorem toList_ofL (l : List UInt8) : (ofL l).data.toList = l := rfl
attribute [local irreducible] wpList Calls wpQuiet
end Go.Proofs.YtclnanhgcnopdaaDoor
end
section
namespace Go.Proofs.YtclnanhgcnopdaaDoor
set_option linter.unusedVariables false
set_option linter.unusedSimpArgs false
open Go.RowKit Kit
def okC (c : UInt8) : Bool := (decide (48 ≤ c.toNat) && decide (c.toNat ≤ 57)) || (decide (65 ≤ c.toNat) && decide (c.toNat ≤ 70))
theorem figV_ok {n : Nat} (h : n < 16) : okC (figV n) = true := by
  have : ∀ m, m < 16 → okC (figV m) = true := by decide
  exact this n h
theorem hexL_ok (l : List UInt8) : ∀ c ∈ hexL l, okC c = true := by
  intro c hc
  obtain ⟨x, hx, h⟩ := List.mem_flatMap.1 hc
  rcases List.mem_cons.1 h with rfl | h
  · exact figV_ok (by have := x.toNat_lt; omega)
  · rw [List.mem_singleton.1 h]
    exact figV_ok (by omega)
def okD (c : UInt8) : Bool := okC c || decide (c.toNat = 61) || decide (c.toNat = 59)
theorem join_mem {c : UInt8} {sep : List UInt8} : ∀ {l : List (List UInt8)}, c ∈ Lib.join l sep → c ∈ sep ∨ ∃ x ∈ l, c ∈ x := by
  intro l h
  cases l with
  | nil => simp [Lib.join_nil] at h
  | cons x l =>
    rw [Lib.join_cons] at h
    rcases List.mem_append.1 h with h | h
    · exact .inr ⟨x, .head _, h⟩
    · obtain ⟨y, hy, hc⟩ := List.mem_flatten.1 h
      obtain ⟨z, hz, rfl⟩ := List.mem_map.1 hy
      rcases List.mem_append.1 hc with hc | hc
      · exact .inl hc
      · exact .inr ⟨z, .tail _ hz, hc⟩
theorem askedP_ok (x : ByteArray) : ∀ c ∈ (askedP x).1.data.toList, okD c = true := by
  intro c hc
  have e : (askedP x).1.data.toList = hexL ((unhexL x.data.toList).getD []) ++ 61 :: hexL (lookB (ofL ((unhexL x.data.toList).getD []))).1.data.toList := rfl
  rw [e] at hc
  unfold okD
  rcases List.mem_append.1 hc with hc | hc
  · rw [hexL_ok _ c hc]; rfl
  · rcases List.mem_cons.1 hc with rfl | hc
    · decide
    · rw [hexL_ok _ c hc]; rfl
theorem capsData_ok (s : ByteArray) : ∀ c ∈ (capsData s).data.toList, okD c = true := by
  intro c hc
  have e : (capsData s).data.toList = Lib.join (((askedL s).map (·.1)).map (·.data.toList)) [59] := rfl
  rw [e] at hc
  rcases join_mem hc with h | ⟨x, hx, h⟩
  · rw [List.mem_singleton.1 h]; decide
  · obtain ⟨y, hy, rfl⟩ := List.mem_map.1 hx
    obtain ⟨z, hz, rfl⟩ := List.mem_map.1 hy
    obtain ⟨u, _, rfl⟩ := List.mem_map.1 hz
    exact askedP_ok u c h
theorem okD_range {c : UInt8} (h : okD c = true) : 32 ≤ c.toNat ∧ c.toNat ≤ 126 := by
  simp [okD, okC] at h
  omega
theorem caps_may (s : ByteArray) : mayI (capsYes (capsData s)) = if 4096 < (capsData s).size then 4 else 0 := by
  unfold mayI
  show (if 4096 < (capsData s).size then (4 : Int) else _) = _
  by_cases h : 4096 < (capsData s).size
  · rw [if_pos h, if_pos h]
  · rw [if_neg h, if_neg h, if_pos]
    have hb : btwL 32 126 (capsData s).data.toList = true := List.all_eq_true.2 fun c hc => by
      have := okD_range (capsData_ok s c hc)
      simp [this]
    show ((decide ((0 : Int) = 0) || finB 60 63 0) && (decide ((⟨#[43]⟩ : ByteArray).size ≤ 2) && btwL 32 47 [43]) && listedB [[1]] && btwL 32 126 (capsData s).data.toList && shapedB (capsYes (capsData s))) = true
    rw [hb]
    have hs : shapedB (capsYes (capsData s)) = true := rfl
    rw [hs]
    decide
theorem capsS_eq (s : ByteArray) : capsS s = if (askedL s).all (·.2) = true ∧ ¬ 4096 < (capsData s).size then capsYes (capsData s) else capsNo := by
  unfold capsS
  rw [caps_may]
  by_cases h1 : (askedL s).all (·.2) = true
  · by_cases h2 : 4096 < (capsData s).size
    · rw [if_pos h1, if_pos h2, if_neg (by decide), if_neg (fun h => h.2 h2)]
    · rw [if_pos h1, if_neg h2, if_pos rfl, if_pos ⟨h1, h2⟩]
  · rw [if_neg h1, if_neg (fun h => h1 h.1)]
theorem one_known {f : FuncId} {args : Array Value} {q : Sr} {w : World} (h : GivesOne f args q w) (n : Int) (hn : q.rows = [[n]]) :
    Calls Tryd.prog f args w fun e w' => ∃ g1 g2, e = .returned (.agg #[.int .i64 q.kind, .int .u8 q.priv, .slice (some ⟨g2, 0, none⟩) 1 1, .string q.inter, .int .u8 q.fin, .string q.data]) ∧ Mine w w' [(g2, IsCells [.slice (some ⟨g1, 0, none⟩) 1 1] 45), (g1, IsCells [.int .i64 n] 3)] := by
  refine h.mono fun e w' ⟨n', g1, g2, h1, h2, h3⟩ => ?_
  rw [hn] at h2
  have e1 : n = n' := by simpa using h2
  subst e1
  refine ⟨g1, g2, ?_, h3⟩
  rw [h1, Sr.v, hn]
  rfl
end Go.Proofs.YtclnanhgcnopdaaDoor
end
section
namespace Go.Proofs.YtclnanhgcnopdaaDoor
set_option linter.unusedVariables false
set_option linter.unusedSimpArgs false
open Go.RowKit Kit G Go.Proofs.YtclnanhgcnopdaaDoorW.PrintWords
theorem join_snoc (l : List (List UInt8)) (x : List UInt8) (h : l ≠ []) : Lib.join (l ++ [x]) [59] = Lib.join l [59] ++ 59 :: x := by
  cases l with
  | nil => exact absurd rfl h
  | cons y l => rw [List.cons_append, Lib.join_cons, Lib.join_cons]; simp [Lib.joinTail]
attribute [local irreducible] wpList Calls wpQuiet
end Go.Proofs.YtclnanhgcnopdaaDoor
end
section
namespace Go.Proofs.YtclnanhgcnopdaaDoor
set_option linter.unusedVariables false
set_option linter.unusedSimpArgs false
open Go.RowKit Kit
theorem splitL_app (c : UInt8) : ∀ (x r : List UInt8), c ∉ x → splitL c (x ++ c :: r) = x :: splitL c r
  | [], r, _ => by simp [splitL]
  | y :: x, r, h => by
    have h1 : ¬ y = c := fun e => h (by rw [e]; exact .head _)
    rw [List.cons_append, splitL, if_neg h1, splitL_app c x r (fun e => h (.tail _ e))]
theorem join_cons2 (x y : List UInt8) (l : List (List UInt8)) : Lib.join (x :: y :: l) [59] = x ++ 59 :: Lib.join (y :: l) [59] := by
  rw [Lib.join_cons, Lib.join_cons]
  simp [Lib.joinTail]
theorem splitL_join : ∀ (ps : List (List UInt8)), ps ≠ [] → (∀ x ∈ ps, (59 : UInt8) ∉ x) → splitL 59 (Lib.join ps [59]) = ps
  | [], h, _ => absurd rfl h
  | [x], _, h => by
    rw [Lib.join_cons]
    simp [Lib.joinTail]
    exact splitL_none 59 x (h x (.head _))
  | x :: y :: l, _, h => by
    rw [join_cons2, splitL_app 59 _ _ (h x (.head _)), splitL_join (y :: l) (by simp) (fun z hz => h z (.tail _ hz))]
theorem askedL_join (ps : List (List UInt8)) (hne : ps ≠ []) (h : ∀ x ∈ ps, (59 : UInt8) ∉ x) : askedL (ofL (Lib.join ps [59])) = ps.map fun x => askedP (ofL x) := by
  unfold askedL splitS
  rw [toList_ofL, splitL_join ps hne h, List.map_map]
  rfl
theorem join_rep_len (x : List UInt8) : ∀ n, (Lib.join (List.replicate (n + 1) x) [59]).length + 1 = (n + 1) * (x.length + 1)
  | 0 => by rw [List.replicate_one, Lib.join_cons]; simp [Lib.joinTail]
  | n + 1 => by
    rw [List.replicate_succ, List.replicate_succ, join_cons2, ← List.replicate_succ, List.length_append, List.length_cons]
    have := join_rep_len x n
    rw [Nat.add_mul (n + 1) 1]
    omega
def askN (n : Nat) : List UInt8 := Lib.join (List.replicate n [52, 51, 54, 70]) [59]
theorem askN_step (k : Nat) (h : 0 < k) : askN (k + 1) = askN k ++ 59 :: [52, 51, 54, 70] := by
  unfold askN
  rw [List.replicate_succ', join_snoc _ _ (by simp; omega)]
theorem askN_len : ∀ n, (askN n).length ≤ 5 * n
  | 0 => by simp [askN, Lib.join_nil]
  | n + 1 => by
    have := join_rep_len [52, 51, 54, 70] n
    have e : ([52, 51, 54, 70] : List UInt8).length = 4 := rfl
    rw [e] at this
    unfold askN
    omega
theorem askedCo : askedP (ofL [52, 51, 54, 70]) = (ofL [52, 51, 54, 70, 61, 51, 50, 51, 53, 51, 54], true) := by decide +kernel
theorem asked00 : (askedP (ofL [48, 48])).2 = false := by decide +kernel
theorem capsS_long (n : Nat) (h : 0 < n) : ∃ D : ByteArray, D.size + 1 = 12 * n ∧ capsS (ofL (askN n)) = if 4096 < 12 * n - 1 then capsNo else capsYes D := by
  have hL : askedL (ofL (askN n)) = List.replicate n (ofL [52, 51, 54, 70, 61, 51, 50, 51, 53, 51, 54], true) := by
    unfold askN
    rw [askedL_join _ (by simp; omega) (fun x hx => by rw [List.eq_of_mem_replicate hx]; decide), List.map_replicate, askedCo]
  have hall : (askedL (ofL (askN n))).all (·.2) = true := by rw [hL]; simp
  have hD : capsData (ofL (askN n)) = ofL (Lib.join (List.replicate n [52, 51, 54, 70, 61, 51, 50, 51, 53, 51, 54]) [59]) := by
    unfold capsData joinB
    rw [hL, List.map_replicate, List.map_replicate]
    rfl
  have hsz : (capsData (ofL (askN n))).size + 1 = 12 * n := by
    obtain ⟨m, rfl⟩ : ∃ m, n = m + 1 := ⟨n - 1, by omega⟩
    rw [hD]
    have := join_rep_len [52, 51, 54, 70, 61, 51, 50, 51, 53, 51, 54] m
    have e : ([52, 51, 54, 70, 61, 51, 50, 51, 53, 51, 54] : List UInt8).length = 11 := rfl
    rw [e] at this
    show (Lib.join (List.replicate (m + 1) [52, 51, 54, 70, 61, 51, 50, 51, 53, 51, 54]) [59]).toArray.size + 1 = _
    rw [List.size_toArray]
    omega
  refine ⟨capsData (ofL (askN n)), hsz, ?_⟩
  rw [capsS_eq]
  by_cases h2 : 4096 < 12 * n - 1
  · rw [if_pos h2, if_neg (fun hh => hh.2 (by omega))]
  · rw [if_neg h2, if_pos ⟨hall, by omega⟩]
theorem capsS_refused (n : Nat) (h : 0 < n) : capsS (ofL (askN n ++ [59, 48, 48])) = capsNo := by
  have hL : askedL (ofL (askN n ++ [59, 48, 48])) = ((List.replicate n [52, 51, 54, 70] ++ [[48, 48]] : List (List UInt8))).map fun x => askedP (ofL x) := by
    rw [← askedL_join _ (by simp) (fun x hx => by
      rcases List.mem_append.1 hx with hx | hx
      · rw [List.eq_of_mem_replicate hx]; decide
      · rw [List.mem_singleton.1 hx]; decide)]
    rw [join_snoc _ _ (by simp; omega)]
    rfl
  rw [capsS_eq, if_neg]
  rintro ⟨h1, _⟩
  rw [hL, List.map_append, List.all_append, Bool.and_eq_true] at h1
  have := h1.2
  rw [List.map_singleton, List.all_cons, asked00] at this
  cases this
namespace Kit
section
variable {P : Program} {ops : Array Oper} {rest : List Oper} {Q : Exit → Act → World → Prop} {a : Act} {W0 w : World} {o : Oper} {T : TypeId} {v : Value} {R bs b0 : Res}
theorem own_appendStr {s x : Operand} {t u : TypeId} {l : List UInt8} {s2 : ByteArray} (HO : Mine W0 w bs) (hR : GRow T v (l.map byV) R) (htl : Tl bs R b0) (ho : o.op = .call { callee := .builtin .append, args := #[s, x], argTypes := #[t, u] })
    (hgd : Region.wanted o (yielded ops a.tmps) = true) (hs : EvalTo a s v) (hx : EvalTo a x (.string s2)) (ht : P.underlying t = some (.slice T)) (hu : P.underlying u = some .string) (hinfo : (P.info? T).map (fun i => (i.zero, i.size, i.bytes)) = some (some (.int .u8 0), 1, 1))
    (hby : l.length + s2.size ≤ 140737488355328)
    (h : ∀ p' n' c' w' R', GRow T (.slice p' n' c') ((l ++ s2.data.toList).map byV) R' → Mine W0 w' R' → wpList P ops Q rest (a.put o.dst (.slice p' n' c')) w') : wpList P ops Q (o :: rest) a w :=
  wpList_want hgd fun _ hK => by
    obtain ⟨i, hi, hz, hsz, hb⟩ : ∃ i, P.info? T = some i ∧ i.zero = some (.int .u8 0) ∧ i.size = 1 ∧ i.bytes = 1 := by
      cases hi : P.info? T with
      | none => rw [hi] at hinfo; cases hinfo
      | some i => rw [hi] at hinfo; simp at hinfo; exact ⟨i, rfl, hinfo.1, hinfo.2.1, hinfo.2.2⟩
    rw [htl.eq] at HO
    have hown := hR.own HO
    obtain ⟨v', w', hap, hown', hgr, _⟩ := Lib.run_append_own_string (P := P) w W0.heap.size t u o.type T i ht hu hi hz hsz hb v _ _ hown s2 (by rw [List.length_map]; unfold maxLen; omega) (by rw [List.length_map]; exact hby) HO.below.size
    have hbel : Below W0.heap.size W0 w' := HO.below.grown hgr HO.below.size (fun k hk => (hown.lt k hk).1)
    have e : (l.map byV) ++ Lib.strCells s2 = (l ++ s2.data.toList).map byV := by rw [List.map_append]; rfl
    rw [e] at hown'
    obtain ⟨R', hR', HM⟩ := GRow.of_own hown' hbel
    unfold Oper.wp execOp
    simp only [ho, resolve, invoke, builtin, Sem.run_bind, Sem.run_pure, Result.andThen_ok, List.map_toArray, List.map_cons, List.map_nil, hs.eq, hx.eq, hap]
    obtain ⟨p', n', c', rfl⟩ := hR'.form
    exact hK _ _ (h _ _ _ _ _ hR' HM)
end
end Kit
end Go.Proofs.YtclnanhgcnopdaaDoor
end
section
namespace Go.Proofs.YtclnanhgcnopdaaDoor
set_option linter.unusedVariables false
set_option linter.unusedSimpArgs false
open Go.RowKit Kit G Go.Proofs.YtclnanhgcnopdaaDoorW.PrintWords
attribute [local irreducible] wpList Calls wpQuiet
set_option maxRecDepth 100000 in
set_option maxHeartbeats 8000000 in
theorem capsLong_calls (x : Int) (h0 : 0 ≤ x) (h9 : x < 65536) (refuse : Bool) (w : World) : Calls Tryd.prog 6 #[.int .u16 x, .bool refuse] w fun e w' => e = .returned (.bool true) ∧ Below w.heap.size w w' := by
  have HO := Mine.start w
  obtain ⟨m, hm⟩ : ∃ m : Nat, m = (x % 600).toNat := ⟨_, rfl⟩
  have hm6 : m < 600 := by omega
  have hx1 : Int.tmod x 600 = (m : Int) := by rw [Int.tmod_eq_emod_of_nonneg h0]; omega
  have hw1 : IntKind.u16.wrap (m : Int) = (m : Int) := by simp [IntKind.wrap, IntKind.signed, IntKind.bits]; omega
  have hw2 : IntKind.i64.wrap (m : Int) = (m : Int) := by simp [IntKind.wrap, IntKind.signed, IntKind.bits]; omega
  have HLEN : Hid (∀ k, (askN k).length ≤ 5 * k) := Lib.hid askN_len
  have HM6 := Lib.hid hm6
  clear hm h0 h9
  go_enter Tryd.func6, Tryd.ntmps6
  go_wp2_with (go_at_call 8; refine (awake20_calls _).mono ?_; rintro eN wN ⟨rfl, hbN⟩; have HON := HO.call hbN; clear HO hbN; have HO := HON; clear HON)
  go_loopw [7, 8] (fun a i wr => ∃ k : Nat, k ≤ m + 1 ∧ i = .int .i64 k ∧ ∃ p q c R, a = .slice p q c ∧ GRow 5 (.slice p q c) ((askN k).map byV) R ∧ Mine w wr R) (fun _ i _ => m + 1 - (intOf i).toNat)
  case atStart => exact ⟨0, Nat.zero_le _, rfl, none, 0, 0, [], rfl, by simpa [askN, Lib.join_nil] using GRow.nil 5, HO⟩
  case round =>
    obtain ⟨k, hk, rfl, p, q, c, R, rfl, hR, HO2⟩ := hrel
    clear HO
    have HO := HO2
    clear HO2
    have HR := Lib.hid hR
    clear hR
    by_cases hlt : k < m + 1
    · have hl1 : decide ((k : Int) < 1 + (m : Int)) = true := decide_eq_true (by omega)
      have H63 : Hid (((askN k).map byV).length + 1 ≤ maxLen ∧ (((askN k).map byV).length + 1) * 1 ≤ 140737488355328) := Lib.hid (by have := HLEN.out k; rw [List.length_map]; unfold maxLen; omega)
      by_cases h0 : 0 < k
      · have hp : decide ((0 : Int) < (k : Int)) = true := decide_eq_true (by omega)
        have hp2 : decide (0 < k) = true := decide_eq_true h0
        have HBY : Hid ((askN k ++ [59]).length + (⟨#[52, 51, 54, 70]⟩ : ByteArray).size ≤ 140737488355328) := Lib.hid (by have := HLEN.out k; rw [List.length_append]; have e : (⟨#[52, 51, 54, 70]⟩ : ByteArray).size = 4 := rfl; rw [e, List.length_singleton]; omega)
        have HST := Lib.hid (askN_step k h0)
        have HK := Lib.hid hlt
        have H59 : Hid (∀ v R, GRow 5 v ((askN k).map byV ++ [.int .u8 59]) R → GRow 5 v ((askN k ++ [59]).map byV) R) := Lib.hid fun v R h => by rw [List.map_append]; exact h
        clear h0 hk
        go_wp2_with (first
      | ((with_reducible refine gate ?_); (first
      | ((with_reducible refine gateAt (N := 24) rfl ?_); refine own_litF HO rfl (n := 1) (cs := [.int .u8 59]) (T := 5) (by first | (go_simp; done) | (go_simp; rfl)) ?_; clear HO; intro gE wN hggE HO; (try simp only [Act.put, List.setIfInBounds_toArray, List.set_cons_zero, List.set_cons_succ]))
      | ((with_reducible refine gateAt (N := 25) rfl ?_); refine own_append1 (T := 5) (t := 33) (z := .int .u8 0) (bytes := 1) HO HR.out (by repeat (first | exact Tl.here | exact Tl.app | apply Tl.cons)) rfl rfl (.tmp rfl) (.tmp rfl) (by first | exact .head _ | exact .tail _ (.head _) | exact .tail _ (.tail _ (.head _)) | exact .tail _ (.tail _ (.tail _ (.head _))) | exact .tail _ (.tail _ (.tail _ (.tail _ (.head _)))) | exact .tail _ (.tail _ (.tail _ (.tail _ (.tail _ (.head _))))) | exact .tail _ (.tail _ (.tail _ (.tail _ (.tail _ (.tail _ (.head _)))))) | exact .tail _ (.tail _ (.tail _ (.tail _ (.tail _ (.tail _ (.tail _ (.head _)))))))) Tryd.underlying33 (by kernel_rfl) (by rfl) (by rfl) H63.out ?_; clear HO; intro p2 n2 c2 wN R2 hR2 HO; (simp only [List.nil_append, List.cons_append] at HO); (try simp only [Act.put, List.setIfInBounds_toArray, List.set_cons_zero, List.set_cons_succ]))
      | ((with_reducible refine gateAt (N := 27) rfl ?_); refine own_appendStr (T := 5) (t := 33) (u := 9) (l := askN k ++ [59]) (s2 := ⟨#[52, 51, 54, 70]⟩) HO (H59.out _ _ hR2) (by repeat (first | exact Tl.here | exact Tl.app | apply Tl.cons)) rfl rfl (by first | exact .const | exact .tmp rfl) (by first | exact .const | exact .tmp rfl) Tryd.underlying33 Tryd.underlying9 (by kernel_rfl) HBY.out ?_; clear HO; intro p3 n3 c3 wN R3 hR3 HO; (try simp only [Act.put, List.setIfInBounds_toArray, List.set_cons_zero, List.set_cons_succ])))))
        go_roundw
        case rel => exact ⟨k + 1, HK.out, by go_num, p3, n3, c3, R3, rfl, by rw [HST.out, show askN k ++ 59 :: [52, 51, 54, 70] = askN k ++ [59] ++ (⟨#[52, 51, 54, 70]⟩ : ByteArray).data.toList by simp]; exact hR3, HO⟩
        case measure => simp [intOf]; try omega
      · obtain rfl : k = 0 := by omega
        have HBY : Hid ((askN 0).length + (⟨#[52, 51, 54, 70]⟩ : ByteArray).size ≤ 140737488355328) := Lib.hid (by decide)
        clear h0 hk
        go_wp2_with (first
      | ((with_reducible refine gate ?_); (first
      | ((with_reducible refine gateAt (N := 27) rfl ?_); refine own_appendStr (T := 5) (t := 33) (u := 9) (l := askN 0) (s2 := ⟨#[52, 51, 54, 70]⟩) HO HR.out (by repeat (first | exact Tl.here | exact Tl.app | apply Tl.cons)) rfl rfl (by first | exact .const | exact .tmp rfl) (by first | exact .const | exact .tmp rfl) Tryd.underlying33 Tryd.underlying9 (by kernel_rfl) HBY.out ?_; clear HO; intro p3 n3 c3 wN R3 hR3 HO; (try simp only [Act.put, List.setIfInBounds_toArray, List.set_cons_zero, List.set_cons_succ])))))
        go_roundw
        case rel => exact ⟨1, by omega, rfl, p3, n3, c3, R3, rfl, hR3, HO⟩
        case measure => simp [intOf]; try omega
    · obtain rfl : k = m + 1 := by omega
      have hl1 : decide (((m + 1 : Nat) : Int) < 1 + (m : Int)) = false := decide_eq_false (by omega)
      have HBY : Hid ((askN (m + 1)).length + (⟨#[59, 48, 48]⟩ : ByteArray).size ≤ 140737488355328) := Lib.hid (by have := HLEN.out (m + 1); have e : (⟨#[59, 48, 48]⟩ : ByteArray).size = 3 := rfl; rw [e]; omega)
      clear hlt hk
      have hqs : refuse = true → capsS ⟨(askN (m + 1) ++ (⟨#[59, 48, 48]⟩ : ByteArray).data.toList).toArray⟩ = ⟨3, 0, [[0]], ⟨#[43]⟩, 114, ⟨#[]⟩⟩ := fun _ => capsS_refused (m + 1) (by omega)
      have hal := fun W => answer_calls ⟨(askN (m + 1)).toArray⟩ (by show (askN (m + 1)).toArray.size ≤ _; rw [List.size_toArray]; have := HLEN.out (m + 1); omega) W
      have har := fun W => answer_calls ⟨(askN (m + 1) ++ (⟨#[59, 48, 48]⟩ : ByteArray).data.toList).toArray⟩ (by show (askN (m + 1) ++ _).toArray.size ≤ _; rw [List.size_toArray, List.length_append]; have := HLEN.out (m + 1); have e : (⟨#[59, 48, 48]⟩ : ByteArray).data.toList.length = 3 := rfl; rw [e]; omega) W
      have hw4 : wrap64 (12 * ((m : Int) + 1)) = 12 * ((m : Int) + 1) := by unfold wrap64; omega
      cases refuse
      · obtain ⟨D, hD, hq⟩ := capsS_long (m + 1) (by omega)
        by_cases hbig : 4096 < 12 * (m + 1) - 1
        · rw [if_pos hbig] at hq
          have ha := fun W => one_known (hal W) 0 (by rw [show capsS ⟨(askN (m + 1)).toArray⟩ = capsNo from hq]; rfl)
          rw [show capsS ⟨(askN (m + 1)).toArray⟩ = ⟨3, 0, [[0]], ⟨#[43]⟩, 114, ⟨#[]⟩⟩ from hq] at ha
          have HA := Lib.hid ha
          have hb1 : decide ((4096 : Int) < 12 * (1 + (m : Int)) - 1) = true := decide_eq_true (by omega)
          clear ha hal har hqs hq hD hbig
          obtain ⟨hnn, hrr, _, _⟩ := HR.out.readsT HO .here
          rw [List.length_map] at hnn
          have hcv := run_str_of (P := Tryd.prog) (src := 33) (dst := 9) (c := c) Tryd.underlying33 Tryd.underlying5 Tryd.underlying9 hrr hnn.symm
          clear hrr hnn
          go_wp2_with (first
      | (go_at_call 12; refine (HA.out _).mono ?_; rintro eN wN ⟨g1, g2, rfl, HM⟩; have HON := (HO.join HM).perm List.perm_append_comm; clear HO HM; have HO := HON; clear HON; (simp only [List.nil_append, List.cons_append] at HO))
      | (go_at_call 15; refine (namesG_calls _).mono ?_; rintro eN wN ⟨b, cB, RB, rfl, hGR, HM⟩; clear hGR; have HON := HO.call HM.below; clear HO HM; have HO := HON; clear HON)
      | ((with_reducible refine gate ?_); (first
      | ((with_reducible refine gateAt (N := 9) rfl ?_); refine own_allocF (T := 28) HO rfl rfl Tryd.zeroValue28 rfl ?_; clear HO; intro gS wN hggS HO; (try simp only [Act.put, List.setIfInBounds_toArray, List.set_cons_zero, List.set_cons_succ]))
      | ((refine own_load (T := 28) HO rfl rfl rfl (by first | exact .head _ | exact .tail _ (.head _) | exact .tail _ (.tail _ (.head _)) | exact .tail _ (.tail _ (.tail _ (.head _))) | exact .tail _ (.tail _ (.tail _ (.tail _ (.head _)))) | exact .tail _ (.tail _ (.tail _ (.tail _ (.tail _ (.head _)))))) Tryd.isAgg28 Tryd.sizeOf28 (by repeat constructor) ?_); (try simp only [Act.put, List.setIfInBounds_toArray, List.set_cons_zero, List.set_cons_succ]))
      | ((refine own_load1 (T := 9) HO rfl rfl rfl (by first | exact .head _ | exact .tail _ (.head _) | exact .tail _ (.tail _ (.head _)) | exact .tail _ (.tail _ (.tail _ (.head _))) | exact .tail _ (.tail _ (.tail _ (.tail _ (.head _)))) | exact .tail _ (.tail _ (.tail _ (.tail _ (.tail _ (.head _)))))) Tryd.isAgg9 rfl ?_); (try simp only [Act.put, List.setIfInBounds_toArray, List.set_cons_zero, List.set_cons_succ]))
      | ((refine own_store1 (T := 9) HO rfl rfl rfl (by first | exact .const | exact .tmp rfl | exact .func) (by rfl) (by first | exact .here | exact .there (.here) | exact .there (.there (.here)) | exact .there (.there (.there (.here))) | exact .there (.there (.there (.there (.here)))) | exact .there (.there (.there (.there (.there (.here)))))) Tryd.sizeOf9 (by repeat constructor) (by rfl) ?_); clear HO; intro wN HO; (try simp only [Act.put, List.setIfInBounds_toArray, List.set_cons_zero, List.set_cons_succ]))
      | ((refine own_store (T := 28) HO rfl rfl rfl rfl (by first | exact .here | exact .there (.here) | exact .there (.there (.here)) | exact .there (.there (.there (.here))) | exact .there (.there (.there (.there (.here)))) | exact .there (.there (.there (.there (.there (.here)))))) Tryd.sizeOf28 (by repeat constructor) rfl ?_); clear HO; intro wN HO; (try simp only [Act.put, List.setIfInBounds_toArray, List.set_cons_zero, List.set_cons_succ])))))
          go_ret
          exact ⟨by simp, HO.below⟩
        · rw [if_neg hbig] at hq
          have ha := fun W => one_known (hal W) 1 (by rw [show capsS ⟨(askN (m + 1)).toArray⟩ = capsYes D from hq]; rfl)
          rw [show capsS ⟨(askN (m + 1)).toArray⟩ = ⟨3, 0, [[1]], ⟨#[43]⟩, 114, D⟩ from hq] at ha
          have HA := Lib.hid ha
          have hb1 : decide ((4096 : Int) < 12 * (1 + (m : Int)) - 1) = false := decide_eq_false (by omega)
          have hd0 : D.toList.isEmpty = false := by
            rw [Lib.toList_data]
            cases hl : D.data.toList with
            | nil => exfalso; have e : D.data.toList.length = D.size := by simp
                     rw [hl] at e; simp at e; omega
            | cons a l => rfl
          have hds : ((D.size : Int) = 12 * (1 + (m : Int)) - 1) := by omega
          have hde : ((D.size : Int) == 12 * (1 + (m : Int)) - 1) = true := beq_iff_eq.2 hds
          clear ha hal har hqs hq hD hbig
          obtain ⟨hnn, hrr, _, _⟩ := HR.out.readsT HO .here
          rw [List.length_map] at hnn
          have hcv := run_str_of (P := Tryd.prog) (src := 33) (dst := 9) (c := c) Tryd.underlying33 Tryd.underlying5 Tryd.underlying9 hrr hnn.symm
          clear hrr hnn
          go_wp2_with (first
      | (go_at_call 12; refine (HA.out _).mono ?_; rintro eN wN ⟨g1, g2, rfl, HM⟩; have HON := (HO.join HM).perm List.perm_append_comm; clear HO HM; have HO := HON; clear HON; (simp only [List.nil_append, List.cons_append] at HO))
      | (go_at_call 15; refine (namesG_calls _).mono ?_; rintro eN wN ⟨b, cB, RB, rfl, hGR, HM⟩; clear hGR; have HON := HO.call HM.below; clear HO HM; have HO := HON; clear HON)
      | ((with_reducible refine gate ?_); (first
      | ((with_reducible refine gateAt (N := 9) rfl ?_); refine own_allocF (T := 28) HO rfl rfl Tryd.zeroValue28 rfl ?_; clear HO; intro gS wN hggS HO; (try simp only [Act.put, List.setIfInBounds_toArray, List.set_cons_zero, List.set_cons_succ]))
      | ((refine own_load (T := 28) HO rfl rfl rfl (by first | exact .head _ | exact .tail _ (.head _) | exact .tail _ (.tail _ (.head _)) | exact .tail _ (.tail _ (.tail _ (.head _))) | exact .tail _ (.tail _ (.tail _ (.tail _ (.head _)))) | exact .tail _ (.tail _ (.tail _ (.tail _ (.tail _ (.head _)))))) Tryd.isAgg28 Tryd.sizeOf28 (by repeat constructor) ?_); (try simp only [Act.put, List.setIfInBounds_toArray, List.set_cons_zero, List.set_cons_succ]))
      | ((refine own_load1 (T := 9) HO rfl rfl rfl (by first | exact .head _ | exact .tail _ (.head _) | exact .tail _ (.tail _ (.head _)) | exact .tail _ (.tail _ (.tail _ (.head _))) | exact .tail _ (.tail _ (.tail _ (.tail _ (.head _)))) | exact .tail _ (.tail _ (.tail _ (.tail _ (.tail _ (.head _)))))) Tryd.isAgg9 rfl ?_); (try simp only [Act.put, List.setIfInBounds_toArray, List.set_cons_zero, List.set_cons_succ]))
      | ((refine own_store1 (T := 9) HO rfl rfl rfl (by first | exact .const | exact .tmp rfl | exact .func) (by rfl) (by first | exact .here | exact .there (.here) | exact .there (.there (.here)) | exact .there (.there (.there (.here))) | exact .there (.there (.there (.there (.here)))) | exact .there (.there (.there (.there (.there (.here)))))) Tryd.sizeOf9 (by repeat constructor) (by rfl) ?_); clear HO; intro wN HO; (try simp only [Act.put, List.setIfInBounds_toArray, List.set_cons_zero, List.set_cons_succ]))
      | ((refine own_store (T := 28) HO rfl rfl rfl rfl (by first | exact .here | exact .there (.here) | exact .there (.there (.here)) | exact .there (.there (.there (.here))) | exact .there (.there (.there (.there (.here)))) | exact .there (.there (.there (.there (.there (.here)))))) Tryd.sizeOf28 (by repeat constructor) rfl ?_); clear HO; intro wN HO; (try simp only [Act.put, List.setIfInBounds_toArray, List.set_cons_zero, List.set_cons_succ])))))
          go_ret
          exact ⟨by simp, HO.below⟩
      · have ha := fun W => one_known (har W) 0 (by rw [hqs rfl])
        rw [hqs rfl] at ha
        have HA := Lib.hid ha
        clear ha hal har hqs
        go_wp2_with (first
      | (go_at_call 12; refine (HA.out _).mono ?_; rintro eN wN ⟨g1, g2, rfl, HM⟩; have HON := (HO.join HM).perm List.perm_append_comm; clear hcv HO HM; have HO := HON; clear HON; (simp only [List.nil_append, List.cons_append] at HO))
      | (go_at_call 15; refine (namesG_calls _).mono ?_; rintro eN wN ⟨b, cB, RB, rfl, hGR, HM⟩; clear hGR; have HON := HO.call HM.below; clear HO HM; have HO := HON; clear HON)
      | ((with_reducible refine gate ?_); (first
      | ((with_reducible refine gateAt (N := 30) rfl ?_); refine own_appendStr (T := 5) (t := 33) (u := 9) (l := askN (m + 1)) (s2 := ⟨#[59, 48, 48]⟩) HO HR.out (by repeat (first | exact Tl.here | exact Tl.app | apply Tl.cons)) rfl rfl (by first | exact .const | exact .tmp rfl) (by first | exact .const | exact .tmp rfl) Tryd.underlying33 Tryd.underlying9 (by kernel_rfl) HBY.out ?_; clear HO; intro p3 n3 c3 wN R3 hR3 HO; obtain ⟨hnn, hrr, _, _⟩ := hR3.readsT HO .here; rw [List.length_map] at hnn; have hcv := run_str_of (P := Tryd.prog) (src := 33) (dst := 9) (c := c3) Tryd.underlying33 Tryd.underlying5 Tryd.underlying9 hrr hnn.symm; clear hrr hnn; (try simp only [Act.put, List.setIfInBounds_toArray, List.set_cons_zero, List.set_cons_succ]))
      | ((with_reducible refine gateAt (N := 9) rfl ?_); refine own_allocF (T := 28) HO rfl rfl Tryd.zeroValue28 rfl ?_; clear HO; intro gS wN hggS HO; (try simp only [Act.put, List.setIfInBounds_toArray, List.set_cons_zero, List.set_cons_succ]))
      | ((refine own_load (T := 28) HO rfl rfl rfl (by first | exact .head _ | exact .tail _ (.head _) | exact .tail _ (.tail _ (.head _)) | exact .tail _ (.tail _ (.tail _ (.head _))) | exact .tail _ (.tail _ (.tail _ (.tail _ (.head _)))) | exact .tail _ (.tail _ (.tail _ (.tail _ (.tail _ (.head _)))))) Tryd.isAgg28 Tryd.sizeOf28 (by repeat constructor) ?_); (try simp only [Act.put, List.setIfInBounds_toArray, List.set_cons_zero, List.set_cons_succ]))
      | ((refine own_load1 (T := 9) HO rfl rfl rfl (by first | exact .head _ | exact .tail _ (.head _) | exact .tail _ (.tail _ (.head _)) | exact .tail _ (.tail _ (.tail _ (.head _))) | exact .tail _ (.tail _ (.tail _ (.tail _ (.head _)))) | exact .tail _ (.tail _ (.tail _ (.tail _ (.tail _ (.head _)))))) Tryd.isAgg9 rfl ?_); (try simp only [Act.put, List.setIfInBounds_toArray, List.set_cons_zero, List.set_cons_succ]))
      | ((refine own_store1 (T := 9) HO rfl rfl rfl (by first | exact .const | exact .tmp rfl | exact .func) (by rfl) (by first | exact .here | exact .there (.here) | exact .there (.there (.here)) | exact .there (.there (.there (.here))) | exact .there (.there (.there (.there (.here)))) | exact .there (.there (.there (.there (.there (.here)))))) Tryd.sizeOf9 (by repeat constructor) (by rfl) ?_); clear HO; intro wN HO; (try simp only [Act.put, List.setIfInBounds_toArray, List.set_cons_zero, List.set_cons_succ]))
      | ((refine own_store (T := 28) HO rfl rfl rfl rfl (by first | exact .here | exact .there (.here) | exact .there (.there (.here)) | exact .there (.there (.there (.here))) | exact .there (.there (.there (.there (.here)))) | exact .there (.there (.there (.there (.there (.here)))))) Tryd.sizeOf28 (by repeat constructor) rfl ?_); clear HO; intro wN HO; (try simp only [Act.put, List.setIfInBounds_toArray, List.set_cons_zero, List.set_cons_succ])))))
        go_ret
        exact ⟨by simp, HO.below⟩
end Go.Proofs.YtclnanhgcnopdaaDoor
end
