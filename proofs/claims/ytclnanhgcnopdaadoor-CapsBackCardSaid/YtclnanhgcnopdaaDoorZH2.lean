/- H: texts run together by shake.py: KitG1 KitSq WiA WiB WiC WFoot WKept WShare WN WRepsOne WInv WGuard WMore NuD Gx0 GgstringsContainsRune Ggwirebetween Ggwirelisted. -/
import Derived.ArgAppend
import Derived.Below
import Derived.BigQuiet
import Derived.Deep.AppendLies
import Derived.Deep.CutBlock
import Derived.Deep.DeepCutAuto
import Derived.Deep.DrawnRows
import Derived.Deep.Draws
import Derived.Deep.LoopGhost
import Derived.Deep.OwnRows
import Derived.Deep.Quiet
import Derived.Deep.QuietTactic
import Derived.Deep.RegionHeld3
import Derived.Ground.GgzProg
import Derived.KernelRfl
import Derived.Laws.AppendOwn
import Derived.Laws.AppendOwnNone
import Derived.Laws.BitsAllLaws
import Derived.Laws.BitsLemmas
import Derived.Laws.BytesArg
import Derived.Laws.CopyRow
import Derived.Laws.IdiomCopy
import Derived.Laws.IdiomStrings
import Derived.Laws.MakeOwn
import Derived.Laws.OwnMore
import Derived.Laws.RangeAny
import Derived.Laws.Rows
import Derived.Laws.Slices
import Derived.Laws.StructEq
import Derived.Lib.AppendStr
import Derived.Lib.ConvBytes
import Derived.Lib.Hide
import Derived.Lib.ItoaNum
import Derived.Lib.OthersKept
import Derived.Lib.TrimU
import Derived.MapKept
import Derived.Maps.AppendAt
import Derived.Orders
import Derived.OrdersHeld
import Derived.OrdersIn
import Derived.Outline
import Derived.OwnWalk
import Derived.RangeFuncCalls
import Derived.RangeFuncNested
import Derived.RangeFuncWrites
import Derived.RowKit
import Derived.RowKit3
import Derived.Shelf.LaysM
import Derived.Shelf.SlIter.Nil
import Derived.Shelf.Slices.Empties2
import Derived.Shelf.Slices.Equal
import Derived.Shelf.Slices.In.SortNone
import Derived.Shelf.Small.Bits
import Derived.Shelf.Small.Strs
import Derived.Shelf.Small.Utf8
import Derived.Shelf.Sort.Plain
import Derived.Shelf.Strconv.Itoa0
import Derived.Shelf.Strings.Builder1
import Derived.Shelf.Strings.Builder2
import Derived.Shelf.Strings.Builder2Cap
import Derived.Shelf.Strings.BuilderCap
import Derived.Shelf.Strings.BuilderF
import Derived.Shelf.Strings.BuilderK
import Derived.Shelf.Strings.Cut
import Derived.Shelf.Strings.OnBuilder
import Derived.Shelf.Strings.Runes
import Derived.Shelf.Strings.Search1
import Derived.Shelf.Strings.Search2
import Derived.Shelf.Strings.Search3
import Derived.Shelf.Strings.Shaped
import Derived.Shelf.Unicode.Decode
import Derived.Shelf.Unicode.DecodeAny
import Derived.Shelf.Unicode.DecodeSlow
import Derived.Still
import Derived.Tactics
import Derived.TacticsIn
import Derived.Test.YtclnanhgcnopdaaDoorProg
import Derived.WalkKit
import Derived.WalkLawsBesides
import Derived.WalkSpells
import Derived.WideLaws
import Derived.Test.YtclnanhgcnopdaaDoorZH1
section
namespace Go.Proofs.YtclnanhgcnopdaaDoor.Kit
set_option linter.unusedVariables false
set_option linter.unusedSimpArgs false
open Go Go.RowKit Go.Proofs.YtclnanhgcnopdaaDoorW.PrintWords
section
variable {P : Program} {ops : Array Oper} {Q : Exit → Act → World → Prop} {a : Act} {w W0 : World} {rest : List Oper} {o : Oper} {bs b0 R : Res} {cs : List Value} {T : TypeId} {v : Value}
theorem own_boxF (HO : Mine W0 w bs) {x : Operand} (ho : o.op = .box T x) (hgd : Region.wanted o (yielded ops a.tmps) = true) (hv : (a.eval x).cells = cs.toArray)
    (h : ∀ g w', W0.heap.size ≤ g → Mine W0 w' ((g, IsCells cs T) :: bs) → wpList P ops Q rest (a.put o.dst (.pointer (some ⟨g, 0, none⟩))) w') : wpList P ops Q (o :: rest) a w :=
  own_box HO ho hgd hv fun g w' hg HO' => h g w' hg (HO'.perm List.perm_append_comm)
theorem own_allocF (HO : Mine W0 w bs) (ho : o.op = .alloc T) (hgd : Region.wanted o (yielded ops a.tmps) = true) (hz : ∀ w, (zeroValue T).run P w = .ok v w) (hv : v.cells = cs.toArray)
    (h : ∀ g w', W0.heap.size ≤ g → Mine W0 w' ((g, IsCells cs T) :: bs) → wpList P ops Q rest (a.put o.dst (.pointer (some ⟨g, 0, none⟩))) w') : wpList P ops Q (o :: rest) a w :=
  own_alloc HO ho hgd hz hv fun g w' hg HO' => h g w' hg (HO'.perm List.perm_append_comm)
theorem own_litF (HO : Mine W0 w bs) (hgd : Region.wanted o (yielded ops a.tmps) = true) {n : Nat}
    (hrun : (execOp a.eval o).run P w = .ok (.value (.slice (some ⟨w.heap.size, 0, none⟩) n n)) (w.alloc (.cells cs.toArray T)))
    (h : ∀ g w', W0.heap.size ≤ g → Mine W0 w' ((g, IsCells cs T) :: bs) → wpList P ops Q rest (a.put o.dst (.slice (some ⟨g, 0, none⟩) n n)) w') : wpList P ops Q (o :: rest) a w :=
  own_lit HO hgd hrun fun g w' hg HO' => h g w' hg (HO'.perm List.perm_append_comm)
theorem own_store1 {bs' : Res} {g off : Nat} {cs' : List Value} {E : TypeId} (HO : Mine W0 w bs) {x y : Operand} (ho : o.op = .store T x y) (hgd : Region.wanted o (yielded ops a.tmps) = true) (hx : a.eval x = .pointer (some ⟨g, off, none⟩)) (hy : EvalTo a y v) (hc : v.cells = [v].toArray)
    (hu : Upd bs g (IsCells cs E) (IsCells cs' E) bs') (hsz : ∀ w, (sizeOf T).run P w = .ok 1 w) (hp : PutAt cs off [v] cs') (h1 : v.oneCell' = true)
    (h : ∀ w', Mine W0 w' bs' → wpList P ops Q rest (a.put o.dst undef) w') : wpList P ops Q (o :: rest) a w :=
  own_store HO ho hgd hx (vs := [v]) (by rw [hy.eq, hc]) hu hsz hp (by simp [h1]) h
def GRow (T : TypeId) (v : Value) (xs : List Value) (R : Res) : Prop :=
  (v = .slice none 0 0 ∧ xs = [] ∧ R = []) ∨ ∃ g cap cur, v = .slice (some ⟨g, 0, none⟩) xs.length cap ∧ xs.length ≤ cap ∧ cap ≤ maxLen ∧ cur.length = cap ∧ cur.take xs.length = xs ∧ R = [(g, IsCells cur T)]
theorem GRow.nil (T : TypeId) : GRow T (.slice none 0 0) [] [] := .inl ⟨rfl, rfl, rfl⟩
theorem GRow.own {xs : List Value} (h : GRow T v xs R) (HO : Mine W0 w (bs ++ R)) : w.ownsRow W0.heap.size T 1 v xs.length xs := by
  rcases h with ⟨rfl, rfl, rfl⟩ | ⟨g, cap, cur, rfl, h1, h2, h3, h4, rfl⟩
  · exact World.ownsRow_nil _ _ _ _
  · have hm : (g, IsCells cur T) ∈ bs ++ [(g, IsCells cur T)] := by simp
    refine ⟨by omega, .inr ⟨g, cap, cur.toArray, rfl, (HO.held _ hm).1, HO.at hm, h1, h2, by simp [h3], by rw [Nat.mul_one]; simpa using h4⟩⟩
theorem GRow.slice {xs : List Value} (h : GRow T v xs R) (HO : Mine W0 w (bs ++ R)) : ∃ p c, v = .slice p xs.length c ∧ Reads w p xs ∧ xs.length ≤ c ∧ c ≤ maxLen := by
  obtain ⟨p, c, h1, h2, h3, h4⟩ := (h.own HO).reads
  exact ⟨p, c, h1, h2, h3, h4⟩
theorem GRow.lit {xs : List Value} {g : Nat} (hm : xs.length ≤ maxLen) : GRow T (.slice (some ⟨g, 0, none⟩) xs.length xs.length) xs [(g, IsCells xs T)] :=
  .inr ⟨g, xs.length, xs, rfl, Nat.le_refl _, hm, rfl, List.take_length, rfl⟩
theorem GRow.append {t ty : TypeId} {i : TypeInfo} {z : Value} {bytes : Nat} (ht : P.underlying t = some (.slice T)) (hi : P.info? T = some i) (hz : i.zero = some z) (hs : i.size = 1) (hb : i.bytes = bytes) (hzs : z.cells.size = 1)
    {xs : List Value} (hR : GRow T v xs R) (HO : Mine W0 w (bs ++ R)) {p : Option Addr} {m c : Nat} {news : List Value} (hl : news.length = m) (hr : Reads w p news) (h1 : ∀ u ∈ news, u.oneCell' = true)
    (h63 : xs.length + m ≤ maxLen) (hby : (xs.length + m) * bytes ≤ 140737488355328) :
    ∃ v' w' R', (Builtin.append_ #[t, t] ty #[v, .slice p m c]).run P w = .ok v' w' ∧ GRow T v' (xs ++ news) R' ∧ Mine W0 w' (bs ++ R') := by
  have hown := hR.own HO
  cases p with
  | none =>
    have : news = [] := by
      cases news with
      | nil => rfl
      | cons x l => obtain ⟨b, o, h, _⟩ := hr 0 x rfl; cases h
    subst this
    simp at hl
    subst hl
    refine ⟨v, w, R, ?_, by rw [List.append_nil]; exact hR, HO⟩
    rcases hR with ⟨rfl, rfl, rfl⟩ | ⟨g, cap, cur, rfl, h4, _⟩
    · simp [Builtin.append_, run_underlying ht, sizeOf, typeInfo, hi, Builtin.lenOf, Builtin.firstCells, loadCells, loadCellsFrom]
    · simp [Builtin.append_, run_underlying ht, sizeOf, typeInfo, hi, Builtin.lenOf, h4, Builtin.firstCells, storeCells]
  | some ad =>
    have hcells : ∀ j u, news[j]? = some u → w.cell? (ad.add j) = some u := by
      intro j u hj
      obtain ⟨b, o, h, hc⟩ := hr j u hj
      cases h
      have hadd : (⟨b, o, none⟩ : Addr).add j = ⟨b, o + j, none⟩ := by unfold Addr.add; split <;> simp_all
      rw [hadd]
      exact hc
    obtain ⟨v', w', hap, hown', hgr, hnil, hat⟩ := run_append_own_at (P := P) (w := w) W0.heap.size t ty T i z 1 bytes ht hi hz hs hb hzs Nat.one_pos v xs.length xs hown ad m c news (by omega) hcells h1 h63 hby HO.below.size
    have hrow : ∀ k, v.ownBlock = some k → W0.heap.size ≤ k := fun k hk => (hown.lt k hk).1
    have hold : ∀ q ∈ bs, some q.1 ≠ v.ownBlock := by
      intro q hq e
      rcases hR with ⟨rfl, _, _⟩ | ⟨g, cap, cur, rfl, _, _, _, _, rfl⟩
      · cases e
      · have hg : q.1 = g := Option.some.inj e
        have hn := HO.nodup
        rw [List.map_append, List.nodup_append] at hn
        exact hn.2.2 q.1 (List.mem_map.2 ⟨q, hq, rfl⟩) g (by simp) hg
    have keep : ∀ q ∈ bs, W0.heap.size ≤ q.1 ∧ ∃ o, w'.heap[q.1]? = some o ∧ q.2 o := fun q hq => by
      have hq' : q ∈ bs ++ R := List.mem_append_left _ hq
      obtain ⟨h2, o, h3, h4⟩ := HO.held q hq'
      exact ⟨h2, o, (hgr.block _ (HO.lt hq') (hold q hq)).trans h3, h4⟩
    have hbel : Below W0.heap.size W0 w' := HO.below.grown hgr HO.below.size hrow
    have hnd : (bs.map (·.1)).Nodup := (HO.left).nodup
    rcases hown'.2 with ⟨rfl, h0⟩ | ⟨g, cap, cur, rfl, hg1, hg2, hg3, hg4, hg5, hg6⟩
    · have hx : xs ++ news = [] := List.eq_nil_of_length_eq_zero (by rw [hown'.1]; omega)
      exact ⟨_, _, [], hap, .inl ⟨rfl, hx, rfl⟩, by rw [List.append_nil]; exact ⟨hbel, hnd, keep⟩⟩
    · have hlen : (xs ++ news).length = xs.length + m := by rw [List.length_append, hl]
      refine ⟨_, _, [(g, IsCells cur.toList T)], hap, .inr ⟨g, cap, cur.toList, by rw [hlen], by omega, hg4, by simp; omega, by rw [hlen]; simpa using hg6, rfl⟩, hbel, ?_, ?_⟩
      · rw [List.map_append, List.nodup_append]
        refine ⟨hnd, by simp, ?_⟩
        intro x hx y hy e
        obtain ⟨q, hq, rfl⟩ := List.mem_map.1 hx
        have hy2 : y = g := by simpa using hy
        rw [hy2] at e
        rcases hat with hat | hat
        · exact hold q hq (by rw [← hat, e]; rfl)
        · have h5 : g = w.heap.size := Option.some.inj hat
          have h6 := HO.lt (List.mem_append_left R hq)
          omega
      · intro q hq
        rcases List.mem_append.1 hq with hq | hq
        · exact keep q hq
        · rw [List.mem_singleton.1 hq]
          exact ⟨hg1, _, hg2, by simp [IsCells]⟩
theorem GRow.of_own {xs : List Value} {n : Nat} {w' : World} (h : w'.ownsRow w.heap.size T 1 v n xs) (hb : Below w.heap.size w w') : ∃ R, GRow T v xs R ∧ Mine w w' R := by
  obtain ⟨h0, h⟩ := h
  have hn : xs.length = n := by omega
  subst hn
  rcases h with ⟨h, h1⟩ | ⟨g, cap, cur, h1, h2, h3, h4, h5, h6, h7⟩
  · exact ⟨[], .inl ⟨h, List.eq_nil_of_length_eq_zero h1, rfl⟩, ⟨hb, List.nodup_nil, by simp⟩⟩
  · refine ⟨[(g, IsCells cur.toList T)], .inr ⟨g, cap, cur.toList, h1, h4, h5, by simp; omega, by rw [Nat.mul_one] at h7; simpa using h7, rfl⟩, ⟨hb, by simp, fun q hq => ?_⟩⟩
    rw [List.mem_singleton.1 hq]
    exact ⟨h2, _, h3, by simp [IsCells]⟩
theorem GRow.form {xs : List Value} (h : GRow T v xs R) : ∃ p n c, v = .slice p n c := by
  rcases h with ⟨rfl, _, _⟩ | ⟨g, cap, cur, rfl, _⟩
  · exact ⟨_, _, _, rfl⟩
  · exact ⟨_, _, _, rfl⟩
theorem GRow.len {xs : List Value} {p : Option Addr} {n c : Nat} (h : GRow T (.slice p n c) xs R) : n = xs.length := by
  rcases h with ⟨h, rfl, _⟩ | ⟨g, cap, cur, h, _⟩
  · cases h; rfl
  · cases h; rfl
theorem GRow.reads {xs : List Value} {p : Option Addr} {n c : Nat} (h : GRow T (.slice p n c) xs R) (HO : Mine W0 w (bs ++ R)) : n = xs.length ∧ Reads w p xs ∧ xs.length ≤ c ∧ c ≤ maxLen := by
  obtain ⟨p', c', e, h2, h3, h4⟩ := h.slice HO
  cases e
  exact ⟨rfl, h2, h3, h4⟩
inductive Tl : Res → Res → Res → Prop
  | here {R : Res} : Tl R R []
  | app {fr R : Res} : Tl (fr ++ R) R fr
  | cons {x : Nat × (Obj → Prop)} {bs R b0 : Res} (h : Tl bs R b0) : Tl (x :: bs) R (x :: b0)
theorem Tl.eq {bs R b0 : Res} (h : Tl bs R b0) : bs = b0 ++ R := by
  induction h with
  | here => rfl
  | app => rfl
  | cons _ ih => rw [ih]; rfl
theorem GRow.readsT {xs : List Value} {p : Option Addr} {n c : Nat} (h : GRow T (.slice p n c) xs R) (HO : Mine W0 w bs) (ht : Tl bs R b0) : n = xs.length ∧ Reads w p xs ∧ xs.length ≤ c ∧ c ≤ maxLen := h.reads (bs := b0) (by rw [← ht.eq]; exact HO)
theorem own_append {s x : Operand} {t : TypeId} {z : Value} {bytes : Nat} {xs news : List Value} {p : Option Addr} {m c : Nat} (HO : Mine W0 w bs) (hR : GRow T v xs R) (htl : Tl bs R b0) (ho : o.op = .call { callee := .builtin .append, args := #[s, x], argTypes := #[t, t] })
    (hgd : Region.wanted o (yielded ops a.tmps) = true) (hs : EvalTo a s v) (hx : EvalTo a x (.slice p m c)) (ht : P.underlying t = some (.slice T)) (hinfo : (P.info? T).map (fun i => (i.zero, i.size, i.bytes)) = some (some z, 1, bytes)) (hzs : z.cells.size = 1)
    (hl : news.length = m) (hr : Reads w p news) (h1 : ∀ u ∈ news, u.oneCell' = true) (h63 : xs.length + m ≤ maxLen) (hby : (xs.length + m) * bytes ≤ 140737488355328)
    (h : ∀ p' n' c' w' R', GRow T (.slice p' n' c') (xs ++ news) R' → Mine W0 w' (b0 ++ R') → wpList P ops Q rest (a.put o.dst (.slice p' n' c')) w') : wpList P ops Q (o :: rest) a w :=
  wpList_want hgd fun _ hK => by
    obtain ⟨i, hi, hz, hsz, hb⟩ : ∃ i, P.info? T = some i ∧ i.zero = some z ∧ i.size = 1 ∧ i.bytes = bytes := by
      cases hi : P.info? T with
      | none => rw [hi] at hinfo; cases hinfo
      | some i => rw [hi] at hinfo; simp at hinfo; exact ⟨i, rfl, hinfo.1, hinfo.2.1, hinfo.2.2⟩
    rw [htl.eq] at HO
    obtain ⟨v', w', R', hap, hR', HO'⟩ := GRow.append (P := P) (t := t) (ty := o.type) ht hi hz hsz hb hzs hR HO hl hr h1 h63 hby (c := c)
    unfold Oper.wp execOp
    simp only [ho, resolve, invoke, builtin, Sem.run_bind, Sem.run_pure, Result.andThen_ok, List.map_toArray, List.map_cons, List.map_nil, hs.eq, hx.eq, hap]
    obtain ⟨p', n', c', rfl⟩ := hR'.form
    exact hK _ _ (h _ _ _ _ _ hR' HO')
theorem own_append1 {s x : Operand} {t : TypeId} {z u : Value} {bytes gl : Nat} {xs : List Value} (HO : Mine W0 w bs) (hR : GRow T v xs R) (htl : Tl bs R b0) (ho : o.op = .call { callee := .builtin .append, args := #[s, x], argTypes := #[t, t] })
    (hgd : Region.wanted o (yielded ops a.tmps) = true) (hs : EvalTo a s v) (hx : EvalTo a x (.slice (some ⟨gl, 0, none⟩) 1 1)) (hm : (gl, IsCells [u] T) ∈ bs) (ht : P.underlying t = some (.slice T)) (hinfo : (P.info? T).map (fun i => (i.zero, i.size, i.bytes)) = some (some z, 1, bytes)) (hzs : z.cells.size = 1)
    (h1 : u.oneCell' = true) (h63 : xs.length + 1 ≤ maxLen ∧ (xs.length + 1) * bytes ≤ 140737488355328)
    (h : ∀ p' n' c' w' R', GRow T (.slice p' n' c') (xs ++ [u]) R' → Mine W0 w' (b0 ++ R') → wpList P ops Q rest (a.put o.dst (.slice p' n' c')) w') : wpList P ops Q (o :: rest) a w :=
  own_append HO hR htl ho hgd hs hx ht hinfo hzs (news := [u]) rfl (Reads.row (n := 1) (HO.at hm) (by simp)) (by simpa using h1) h63.1 h63.2 h
end
end Go.Proofs.YtclnanhgcnopdaaDoor.Kit
end
section
namespace Go.Proofs.YtclnanhgcnopdaaDoor
set_option linter.unusedVariables false
set_option linter.unusedSimpArgs false
open Go.RowKit Kit Go.Proofs.YtclnanhgcnopdaaDoorW.PrintWords
structure Sr where
  kind : Int
  priv : Int
  rows : List (List Int)
  inter : ByteArray
  fin : Int
  data : ByteArray
  deriving DecidableEq
def Sr.v (q : Sr) (A : Option Addr) (c : Nat) : Value := .agg #[.int .i64 q.kind, .int .u8 q.priv, .slice A q.rows.length c, .string q.inter, .int .u8 q.fin, .string q.data]
def Sr.cells (q : Sr) (A : Option Addr) (c : Nat) : List Value := [.int .i64 q.kind, .int .u8 q.priv, .slice A q.rows.length c, .string q.inter, .int .u8 q.fin, .string q.data]
abbrev RowsC (w : World) (A : Option Addr) (l : List (List Int)) : Prop := (Kd.slice 3 (Kd.int .i64)).C w A l.length l
def SrAt (q : Sr) : Fact := fun v w => ∃ A c, v = q.v A c ∧ q.rows.length ≤ c ∧ RowsC w A q.rows
theorem Stays.SrAt (q : Sr) : Stays (SrAt q) := fun v w w' h hb => by
  obtain ⟨A, c, h1, h2, h3⟩ := h
  exact ⟨A, c, h1, h2, Kd.C_below h3 hb⟩
theorem SrAt.below {q : Sr} {v : Value} {w w' : World} (h : SrAt q v w) (hb : Below w.heap.size w w') : SrAt q v w' := Stays.SrAt q v w w' h hb
def GivesOne (f : FuncId) (args : Array Value) (q : Sr) (w : World) : Prop := Calls Tryd.prog f args w fun e w' => ∃ n g1 g2, e = .returned (q.v (some ⟨g2, 0, none⟩) 1) ∧ q.rows = [[n]] ∧ Mine w w' [(g2, IsCells [.slice (some ⟨g1, 0, none⟩) 1 1] 45), (g1, IsCells [.int .i64 n] 3)]
theorem rows_one1 {w : World} {g1 g2 : Nat} {n : Int} (h1 : w.heap[g1]? = some (.cells [Value.int .i64 n].toArray 3 (0, 0))) (h2 : w.heap[g2]? = some (.cells [Value.slice (some ⟨g1, 0, none⟩) 1 1].toArray 45 (0, 0))) : RowsC w (some ⟨g2, 0, none⟩) [[n]] :=
  lit_row (xs := [n]) (n := 1) rfl (by decide) h1 h2
end Go.Proofs.YtclnanhgcnopdaaDoor
end
section
namespace Go.Proofs.YtclnanhgcnopdaaDoor
set_option linter.unusedVariables false
set_option linter.unusedSimpArgs false
open Go.RowKit Kit Go.Proofs.YtclnanhgcnopdaaDoorW.PrintWords
def btwL (a b : Nat) (l : List UInt8) : Bool := l.all fun c => decide (a ≤ c.toNat) && decide (c.toNat ≤ b)
theorem btwL_bad {a b : Nat} {l : List UInt8} {k : Nat} (hk : k < l.length) (h : (l[k]).toNat < a ∨ b < (l[k]).toNat) : btwL a b l = false := by
  rw [Bool.eq_false_iff]
  intro e
  have := List.all_eq_true.1 e (l[k]) (List.getElem_mem hk)
  simp at this
  omega
theorem btwL_good {a b : Nat} {l : List UInt8} (h : ∀ j (hj : j < l.length), a ≤ (l[j]).toNat ∧ (l[j]).toNat ≤ b) : btwL a b l = true := by
  refine List.all_eq_true.2 fun c hc => ?_
  obtain ⟨j, hj, rfl⟩ := List.mem_iff_getElem.1 hc
  have := h j hj
  simp
  omega
attribute [local irreducible] wpList Calls wpQuiet
theorem outside_calls (a b r : Nat) (ha : a < 256) (hb : b < 256) (hr : r < 2147483648) (gA gB : Nat) (w : World) (hA : w.cell? ⟨gA, 0, none⟩ = some (.int .u8 (a : Int))) (hB : w.cell? ⟨gB, 0, none⟩ = some (.int .u8 (b : Int))) (t : Bool) (ht : (decide (r < a) || decide (b < r)) = t) :
    Calls Tryd.prog 59 #[.int .i32 (r : Int), .pointer (some ⟨gA, 0, none⟩), .pointer (some ⟨gB, 0, none⟩)] w fun e w' => e = .returned (.bool t) ∧ w' = w := by
  have e1 : IntKind.i32.wrap (a : Int) = (a : Int) := IntWalk.i32_in _ (by omega)
  have e2 : IntKind.i32.wrap (b : Int) = (b : Int) := IntWalk.i32_in _ (by omega)
  have HT := Lib.hid ht
  clear ht
  by_cases h1 : r < a
  · have b1 : decide (r < a) = true := decide_eq_true h1
    have b1' : decide ((r : Int) < (a : Int)) = true := decide_eq_true (by omega)
    have hte : t = true := by rw [← HT.out, b1]; rfl
    subst hte
    clear h1 ha hb hr
    go_enter Tryd.func59, Tryd.ntmps59
    go_wp2
    go_ret
    exact ⟨rfl, rfl⟩
  · have b1 : decide (r < a) = false := decide_eq_false h1
    have b1' : decide ((r : Int) < (a : Int)) = false := decide_eq_false (by omega)
    by_cases h2 : b < r
    · have b2 : decide (b < r) = true := decide_eq_true h2
      have b2' : decide ((b : Int) < (r : Int)) = true := decide_eq_true (by omega)
      have hte : t = true := by rw [← HT.out, b1, b2]; rfl
      subst hte
      clear h1 h2 ha hb hr
      go_enter Tryd.func59, Tryd.ntmps59
      go_wp2
      go_ret
      exact ⟨rfl, rfl⟩
    · have b2 : decide (b < r) = false := decide_eq_false h2
      have b2' : decide ((b : Int) < (r : Int)) = false := decide_eq_false (by omega)
      have hte : t = false := by rw [← HT.out, b1, b2]; rfl
      subst hte
      clear h1 h2 ha hb hr
      go_enter Tryd.func59, Tryd.ntmps59
      go_wp2
      go_ret
      exact ⟨rfl, rfl⟩
theorem indexOut_calls (s : ByteArray) (a b : Nat) (ha : a < 128) (hb : b < 128) (gA gB : Nat) (w : World) (hA : w.cell? ⟨gA, 0, none⟩ = some (.int .u8 (a : Int))) (hB : w.cell? ⟨gB, 0, none⟩ = some (.int .u8 (b : Int))) :
    Calls Tryd.prog 91 #[.string s, .func (.func 59) #[] #[.pointer (some ⟨gA, 0, none⟩), .pointer (some ⟨gB, 0, none⟩)], .bool true] w fun e w' => ∃ I : Int, e = .returned (.int .i64 I) ∧ decide (0 ≤ I) = !btwL a b s.data.toList ∧ Below w.heap.size w w' := by
  have hlA := World.block_lt_of_cell? w _ hA
  have hlB := World.block_lt_of_cell? w _ hB
  have HC : Hid (∀ (W : World), Below w.heap.size w W → ∀ r : Nat, r < 2147483648 → ∀ t, (decide (r < a) || decide (b < r)) = t → Calls Tryd.prog 59 #[.int .i32 (r : Int), .pointer (some ⟨gA, 0, none⟩), .pointer (some ⟨gB, 0, none⟩)] W fun e w' => e = .returned (.bool t) ∧ w' = W) :=
    Lib.hid fun W hW r hr t ht => outside_calls a b r (by omega) (by omega) hr gA gB W ((hW.cell (p := ⟨gA, 0, none⟩) hlA).trans hA) ((hW.cell (p := ⟨gB, 0, none⟩) hlB).trans hB) t ht
  have HSZ : Hid (s.data.toList.length = s.size) := Lib.hid (by simp)
  clear hA hB hlA hlB
  go_enter Tryd.func91, Tryd.ntmps91
  go_wp2
  go_loopw [] (fun wr => ∃ k : Nat, k ≤ s.size ∧ wr = w.iter s k ∧ Hid (∀ j (hj : j < s.data.toList.length), j < k → a ≤ (s.data.toList[j]).toNat ∧ (s.data.toList[j]).toNat ≤ b)) (fun wr => s.size - wr.iterPos w.heap.size)
  case atStart => exact ⟨0, Nat.zero_le _, rfl, Lib.hid (fun j hj h => by omega)⟩
  case round =>
    obtain ⟨k, hk, rfl, HG⟩ := hrel
    by_cases hlt : k < s.size
    · obtain ⟨x, hx⟩ : ∃ x : UInt8, x = s[k]'hlt := ⟨_, rfl⟩
      have hkl : k < s.data.toList.length := by rw [HSZ.out]; exact hlt
      have hxl : s.data.toList[k] = x := by rw [hx]; rfl
      have hxb : x.toNat < 256 := x.toNat_lt
      by_cases hin : a ≤ x.toNat ∧ x.toNat ≤ b
      · obtain ⟨hi1, hi2⟩ := hin
        have hnx : ∀ ty, (Instr.next (.pointer (some ⟨w.heap.size, 0, none⟩)) true ty).run Tryd.prog (w.iter s k) = .ok (.tuple #[.bool true, .int .i64 k, .int .i32 (x.toNat : Int)]) (w.iter s (k + 1)) := by
          intro ty
          rw [hx]
          exact run_next_ascii w s k ty hlt (by rw [← hx]; omega)
        have cC := HC.out (w.iter s (k + 1)) ((Below.refl _ _).alloc (Nat.le_refl _) _) x.toNat (by omega) false (by rw [decide_eq_false (show ¬ x.toNat < a by omega), decide_eq_false (show ¬ b < x.toNat by omega)]; rfl)
        have HG2 : Hid (∀ j (hj : j < s.data.toList.length), j < k + 1 → a ≤ (s.data.toList[j]).toNat ∧ (s.data.toList[j]).toNat ≤ b) := Lib.hid fun j hj h => by
          by_cases e : j = k
          · subst e; rw [hxl]; exact ⟨hi1, hi2⟩
          · exact HG.out j hj (by omega)
        have HK := Lib.hid (And.intro hk hlt)
        clear hx hxl hkl hxb hi1 hi2 HG hk hlt
        go_wp2_with (go_at_call 59; refine cC.mono ?_; rintro e w' ⟨rfl, rfl⟩)
        go_roundw
        case rel => exact ⟨k + 1, by have := HK.out; omega, rfl, HG2⟩
        case measure =>
          have := HK.out
          simp only [World.iterPos, World.iter_heap]
          omega
      · have hbad : btwL a b s.data.toList = false := btwL_bad hkl (by rw [hxl]; omega)
        have HBAD := Lib.hid hbad
        by_cases hasc : x.toNat < 128
        · have hnx : ∀ ty, (Instr.next (.pointer (some ⟨w.heap.size, 0, none⟩)) true ty).run Tryd.prog (w.iter s k) = .ok (.tuple #[.bool true, .int .i64 k, .int .i32 (x.toNat : Int)]) (w.iter s (k + 1)) := by
            intro ty
            rw [hx]
            exact run_next_ascii w s k ty hlt (by rw [← hx]; omega)
          have cC := HC.out (w.iter s (k + 1)) ((Below.refl _ _).alloc (Nat.le_refl _) _) x.toNat (by omega) true (by
            by_cases h1 : x.toNat < a
            · rw [decide_eq_true h1]; rfl
            · rw [decide_eq_true (show b < x.toNat by omega)]; simp)
          have HB : Hid (Below w.heap.size w (w.iter s (k + 1))) := Lib.hid ((Below.refl _ _).alloc (Nat.le_refl _) _)
          clear hx hxl hkl hxb hin HG hk hbad
          go_wp2_with (go_at_call 59; refine cC.mono ?_; rintro e w' ⟨rfl, rfl⟩)
          go_ret
          exact ⟨_, rfl, by rw [HBAD.out]; exact decide_eq_true (by omega), HB.out⟩
        · have hd := (decode_high s k hlt (by rw [← hx]; omega)).1
          have hrb : (Utf8.decode s k).1 < 2147483648 := Nat.lt_of_le_of_lt (Lib.rune_le s k) (by decide)
          obtain ⟨r, hr⟩ : ∃ r, (Utf8.decode s k).1 = r := ⟨_, rfl⟩
          have hnx : ∀ ty, (Instr.next (.pointer (some ⟨w.heap.size, 0, none⟩)) true ty).run Tryd.prog (w.iter s k) = _ := fun ty => Lib.run_next_any_at (w.iter s k) w.heap.size s k ty (World.iter_heap w s k) hlt
          rw [hr] at hnx hd hrb
          have HB : Hid (Below w.heap.size w ((w.iter s k).iterAt w.heap.size s (k + (Utf8.decode s k).2))) := Lib.hid (Lib.below_iterAt (((Below.refl w.heap.size w).alloc (Nat.le_refl _) _ : Below w.heap.size w (w.iter s k))) (Nat.le_refl w.heap.size) s (k + (Utf8.decode s k).2))
          obtain ⟨W2, hW2⟩ : ∃ W2, (w.iter s k).iterAt w.heap.size s (k + (Utf8.decode s k).2) = W2 := ⟨_, rfl⟩
          rw [hW2] at hnx HB
          have cC := HC.out W2 HB.out r hrb true (by rw [decide_eq_true (show b < r by omega)]; simp)
          clear hx hxl hkl hxb hin HG hk hbad hasc hd hrb hr hW2
          go_wp2_with (go_at_call 59; refine cC.mono ?_; rintro e w' ⟨rfl, rfl⟩)
          go_ret
          exact ⟨_, rfl, by rw [HBAD.out]; exact decide_eq_true (by omega), HB.out⟩
    · have hks : k = s.size := by omega
      have hnx := fun ty => run_next_end (P := Tryd.prog) w s k ty hlt
      have HGOOD : Hid (btwL a b s.data.toList = true) := Lib.hid (btwL_good fun j hj => HG.out j hj (by rw [HSZ.out] at hj; omega))
      have HB : Hid (Below w.heap.size w (w.iter s k)) := Lib.hid ((Below.refl _ _).alloc (Nat.le_refl _) _)
      clear HG hk
      subst hks
      go_wp2
      go_ret
      exact ⟨_, rfl, by rw [HGOOD.out]; decide, HB.out⟩
theorem between_calls (s : ByteArray) (a b : Nat) (ha : a < 128) (hb : b < 128) (w : World) :
    Calls Tryd.prog 44 #[.string s, .int .u8 (a : Int), .int .u8 (b : Int)] w fun e w' => e = .returned (.bool (btwL a b s.data.toList)) ∧ Below w.heap.size w w' := by
  have HI : Hid (∀ (gA gB : Nat) (W : World), W.cell? ⟨gA, 0, none⟩ = some (.int .u8 (a : Int)) → W.cell? ⟨gB, 0, none⟩ = some (.int .u8 (b : Int)) → Calls Tryd.prog 58 #[.string s, .func (.func 59) #[] #[.pointer (some ⟨gA, 0, none⟩), .pointer (some ⟨gB, 0, none⟩)]] W fun e w' => e = .returned (.bool (!btwL a b s.data.toList)) ∧ Below W.heap.size W w') := by
    refine Lib.hid fun gA gB W hA hB => ?_
    have h1 : Calls Tryd.prog 72 #[.string s, .func (.func 59) #[] #[.pointer (some ⟨gA, 0, none⟩), .pointer (some ⟨gB, 0, none⟩)]] W fun e w' => ∃ I : Int, e = .returned (.int .i64 I) ∧ decide (0 ≤ I) = !btwL a b s.data.toList ∧ Below W.heap.size W w' := by
      have h2 := Lib.hid (indexOut_calls s a b ha hb gA gB W hA hB)
      clear hA hB ha hb
      go_enter Tryd.func72, Tryd.ntmps72
      go_wp2_with (go_at_call 91; refine h2.out.mono ?_; rintro e w' ⟨I, rfl, hI, hb⟩; have HI := Lib.hid hI; clear hI)
      go_ret
      exact ⟨I, rfl, HI.out, hb⟩
    have h2 := Lib.hid h1
    clear h1 hA hB ha hb
    go_enter Tryd.func58, Tryd.ntmps58
    go_wp2_with (go_at_call 72; refine h2.out.mono ?_; rintro e w' ⟨I, rfl, hI, hb⟩; have HI := Lib.hid hI; clear hI)
    go_ret
    exact ⟨retB HI.out, hb⟩
  obtain ⟨t, ht⟩ : ∃ t, btwL a b s.data.toList = t := ⟨_, rfl⟩
  rw [ht] at HI ⊢
  clear ht
  have HO := Mine.start w
  clear ha hb
  go_enter Tryd.func44, Tryd.ntmps44
  go_wp2_with (first
      | (go_at_call 58; refine (HI.out gA gB _ (HO.cell1 (.head _)) (HO.cell1 (.tail _ (.head _)))).mono ?_; rintro eN wN ⟨rfl, hbN⟩; have HON := HO.call hbN; clear HO hbN; have HO := HON; clear HON)
      | ((with_reducible refine gate ?_); (first
      | ((with_reducible refine gateAt (N := 4) rfl ?_); refine own_box (T := 5) HO rfl rfl rfl ?_; clear HO; intro gA wN hggA HO; (simp only [List.nil_append, List.cons_append] at HO); (try simp only [Act.put, List.setIfInBounds_toArray, List.set_cons_zero, List.set_cons_succ]))
      | ((with_reducible refine gateAt (N := 5) rfl ?_); refine own_box (T := 5) HO rfl rfl rfl ?_; clear HO; intro gB wN hggB HO; (simp only [List.nil_append, List.cons_append] at HO); (try simp only [Act.put, List.setIfInBounds_toArray, List.set_cons_zero, List.set_cons_succ]))
      | ((refine own_box HO rfl rfl rfl ?_); clear HO; intro gN wN hgN HO; (simp only [List.nil_append, List.cons_append] at HO); (try simp only [Act.put, List.setIfInBounds_toArray, List.set_cons_zero, List.set_cons_succ])))))
  go_ret
  exact ⟨rfl, HO.below⟩
end Go.Proofs.YtclnanhgcnopdaaDoor
end
section
namespace Go.Proofs.YtclnanhgcnopdaaDoor
set_option linter.unusedVariables false
set_option linter.unusedSimpArgs false
open Go.RowKit Kit Go.Proofs.YtclnanhgcnopdaaDoorW.PrintWords
theorem Kit.rows_get {T : Nat} {w : World} {A : Option Addr} {n : Nat} {xs : List (List Int)} (h : (Kd.slice T (Kd.int .i64)).C w A n xs) {k : Nat} (hk : k < n) :
    ∃ b o A' c', A = some ⟨b, o, none⟩ ∧ w.cell? ⟨b, o + k, none⟩ = some (.slice A' (xs.getD k []).length c') ∧ (xs.getD k []).length ≤ c' ∧ (Kd.int .i64).C w A' (xs.getD k []).length (xs.getD k []) := by
  obtain ⟨ad, c, rfl, hc, hK, hcell⟩ := Kd.C_get h [] (k : Int) (by omega) (by omega)
  obtain ⟨A', c', rfl, hl, hr⟩ := hK
  have h1 := hcell 0 _ rfl
  have e : ((k : Int).toNat * (Kd.slice T (Kd.int .i64)).sz + 0) = k := by
    show (k : Int).toNat * 1 + 0 = k
    omega
  rw [e] at h1
  simp only [Int.toNat_natCast] at h1 hl hr
  have hs : ad.spot = none := by
    obtain ⟨ad', c2, e2, _, ⟨A2, c3, rfl, _, _⟩, hcell2⟩ := Kd.C_get h [] 0 (by omega) (by omega)
    cases e2
    have h3 := spot_of_cell (hcell2 0 _ rfl)
    simpa [Addr.add] using h3
  obtain ⟨b, oo, rfl, h2⟩ := add_at h1 hs
  exact ⟨b, oo, A', c', rfl, h2, hl, hr⟩
theorem Kit.int_get {w : World} {A : Option Addr} {n : Nat} {xs : List Int} (h : (Kd.int .i64).C w A n xs) {k : Nat} (hk : k < n) :
    ∃ b o, A = some ⟨b, o, none⟩ ∧ w.cell? ⟨b, o + k, none⟩ = some (.int .i64 (xs.getD k 0)) := by
  have hl : xs.length = n := h.1
  obtain ⟨b, o, h1, h2⟩ := (reads_ints h).int (k := k) (by omega)
  exact ⟨b, o, h1, by rw [h2, List.getD_eq_getElem?_getD]⟩
theorem equalI_calls (A B : Option Addr) (c d : Nat) (xs ys : List Int) (w : World) (hA : (Kd.int .i64).C w A xs.length xs) (hB : (Kd.int .i64).C w B ys.length ys) :
    Calls Tryd.prog 52 #[.slice A xs.length c, .slice B ys.length d] w fun e w' => e = .returned (.bool (decide (xs = ys))) ∧ Below w.heap.size w w' := by
  have hm1 := Kd.C_max hA
  have hm2 := Kd.C_max hB
  by_cases h : xs.length = ys.length
  · by_cases h0 : xs.length = 0
    · have e1 : xs = [] := List.length_eq_zero_iff.1 h0
      have e2 : ys = [] := List.length_eq_zero_iff.1 (by omega)
      subst e1; subst e2
      exact (Tryd.slices_Equal_int_empty A B c 0 d w (by omega)).mono fun e w' ⟨h1, h2⟩ => ⟨by rw [h1]; rfl, by rw [h2]; exact Below.refl _ _⟩
    · obtain ⟨b1, o1, rfl, _⟩ := int_get hA (k := 0) (by omega)
      obtain ⟨b2, o2, rfl, _⟩ := int_get hB (k := 0) (by omega)
      refine (Tryd.slices_Equal_int b1 o1 xs.length c b2 o2 ys.length d xs ys w (Nat.le_refl _) (Nat.le_refl _) hm1 hm2 (fun j hj => ?_) (fun j hj => ?_)).mono fun e w' ⟨h1, q, h2⟩ => ⟨?_, ?_⟩
      · obtain ⟨b, oo, e, hc⟩ := int_get hA (k := j) hj
        cases e
        exact hc
      · obtain ⟨b, oo, e, hc⟩ := int_get hB (k := j) hj
        cases e
        exact hc
      · rw [h1, List.take_length, List.take_length]
        exact retB (by rw [Bool.eq_iff_iff]; simp)
      · rw [h2]
        exact pw_below_drewN (Below.refl _ _) q
  · refine (Tryd.slices_Equal_int_lens A B xs.length c ys.length d w h).mono fun e w' ⟨h1, h2⟩ => ⟨?_, by rw [h2]; exact Below.refl _ _⟩
    rw [h1]
    exact retB (decide_eq_false fun e => h (by rw [e])).symm
def partB (n : Int) : Bool := decide (-1 ≤ n) && decide (n ≤ 1114111)
def paramB (p : List Int) : Bool := p.all partB && (decide (1 ≤ p.length) && decide (p.length ≤ 8))
def listedB (l : List (List Int)) : Bool := !(decide (16 < l.length) || decide (l = [[-1]])) && l.all paramB
theorem all_at {α : Type} {p : α → Bool} {l : List α} (z : α) (h : ∀ j, j < l.length → p (l.getD j z) = true) : l.all p = true := by
  refine List.all_eq_true.2 fun c hc => ?_
  obtain ⟨j, hj, rfl⟩ := List.mem_iff_getElem.1 hc
  have := h j hj
  simpa [List.getD, hj] using this
theorem not_all {α : Type} {p : α → Bool} {l : List α} {z : α} {j : Nat} (hj : j < l.length) (h : p (l.getD j z) = false) : l.all p = false := by
  rw [Bool.eq_false_iff]
  intro e
  have := List.all_eq_true.1 e (l.getD j z) (by simp [List.getD, hj])
  rw [h] at this
  cases this
attribute [local irreducible] wpList Calls wpQuiet
theorem oddPart_calls (n : Int) (w : World) (t : Bool) (ht : (!partB n) = t) : Calls Tryd.prog 61 #[.int .i64 n] w fun e w' => e = .returned (.bool t) ∧ w' = w := by
  have HT := Lib.hid ht
  clear ht
  by_cases h1 : n < -1
  · have b1 : decide (n < -1) = true := decide_eq_true h1
    have hte : t = true := by rw [← HT.out]; simp [partB]; omega
    subst hte
    clear h1
    go_enter Tryd.func61, Tryd.ntmps61
    go_wp2
    go_ret
    exact ⟨rfl, rfl⟩
  · have b1 : decide (n < -1) = false := decide_eq_false h1
    by_cases h2 : 1114111 < n
    · have b2 : decide (1114111 < n) = true := decide_eq_true h2
      have hte : t = true := by rw [← HT.out]; simp [partB]; omega
      subst hte
      clear h1 h2
      go_enter Tryd.func61, Tryd.ntmps61
      go_wp2
      go_ret
      exact ⟨rfl, rfl⟩
    · have b2 : decide (1114111 < n) = false := decide_eq_false h2
      have hte : t = false := by rw [← HT.out]; simp [partB]; omega
      subst hte
      clear h1 h2
      go_enter Tryd.func61, Tryd.ntmps61
      go_wp2
      go_ret
      exact ⟨rfl, rfl⟩
theorem oddAt_calls (A : Option Addr) (c : Nat) (p : List Int) (w : World) (hC : (Kd.int .i64).C w A p.length p) (t : Bool) (ht : (!p.all partB) = t) :
    Calls Tryd.prog 60 #[.slice A p.length c, .func (.func 61) #[] #[]] w fun e w' => e = .returned (.bool t) ∧ w' = w := by
  have hI : Calls Tryd.prog 73 #[.slice A p.length c, .func (.func 61) #[] #[]] w fun e w' => ∃ I : Int, e = .returned (.int .i64 I) ∧ decide (0 ≤ I) = t ∧ w' = w := by
    have hm := Kd.C_max hC
    obtain ⟨n, hn⟩ : ∃ n, p.length = n := ⟨_, rfl⟩
    rw [hn] at hm ⊢
    have HN := Lib.hid hn
    have HC := Lib.hid hC
    have HT := Lib.hid ht
    clear hn hC ht
    go_enter Tryd.func73, Tryd.ntmps73
    go_wp2
    go_loop [8] (fun i => ∃ k : Nat, k ≤ n ∧ i = .int .i64 k ∧ Hid (∀ j, j < k → partB (p.getD j 0) = true)) (fun i => n - (intOf i).toNat)
    case atStart => exact ⟨0, Nat.zero_le _, rfl, Lib.hid (fun j hj => by omega)⟩
    case round =>
      obtain ⟨k, hk, rfl, HG⟩ := hrel
      by_cases hlt : k < n
      · obtain ⟨b, oo, rfl, hcell⟩ := int_get HC.out (k := k) (by rw [HN.out]; exact hlt)
        obtain ⟨z, hz⟩ : ∃ z, p.getD k 0 = z := ⟨_, rfl⟩
        rw [hz] at hcell
        have HZ := Lib.hid hz
        have hb1 : decide ((k : Int) < (n : Int)) = true := decide_eq_true (by omega)
        clear hz
        cases hp : partB z
        · have cC := oddPart_calls z w true (by rw [hp]; rfl)
          have HR : Hid (t = true) := Lib.hid (by rw [← HT.out, not_all (z := 0) (j := k) (by rw [HN.out]; exact hlt) (by rw [HZ.out]; exact hp)]; rfl)
          clear hp HG hk
          go_wp2_with (go_at_call 61; refine cC.mono ?_; rintro e w' ⟨rfl, rfl⟩)
          go_ret
          exact ⟨_, rfl, by rw [HR.out]; exact decide_eq_true (by omega), rfl⟩
        · have cC := oddPart_calls z w false (by rw [hp]; rfl)
          have HG2 : Hid (∀ j, j < k + 1 → partB (p.getD j 0) = true) := Lib.hid fun j hj => by
            by_cases e : j = k
            · subst e; rw [HZ.out]; exact hp
            · exact HG.out j (by omega)
          clear hp HG
          go_wp2_with (go_at_call 61; refine cC.mono ?_; rintro e w' ⟨rfl, rfl⟩)
          go_round
          case rel => exact ⟨k + 1, by omega, by go_num, HG2⟩
          case measure => simp [intOf]; omega
      · have hb1 : decide ((k : Int) < (n : Int)) = false := decide_eq_false (by omega)
        have HR : Hid (t = false) := Lib.hid (by rw [← HT.out, all_at (0 : Int) fun j hj => HG.out j (by rw [HN.out] at hj; omega)]; rfl)
        clear HG hk
        go_wp2
        go_ret
        exact ⟨_, rfl, by rw [HR.out]; decide, rfl⟩
  have h2 := Lib.hid hI
  clear hI hC ht
  go_enter Tryd.func60, Tryd.ntmps60
  go_wp2_with (go_at_call 73; refine h2.out.mono ?_; rintro e w' ⟨I, rfl, hI, rfl⟩; have HI := Lib.hid hI; clear hI)
  go_ret
  exact ⟨retB HI.out, rfl⟩
set_option maxRecDepth 100000 in
set_option maxHeartbeats 4000000 in
theorem listed_many (A : Option Addr) (c : Nat) (l : List (List Int)) (w : World) (hC : (Kd.slice 3 (Kd.int .i64)).C w A l.length l) (hq : 16 < l.length) :
    Calls Tryd.prog 45 #[.slice A l.length c] w fun e w' => e = .returned (.bool (listedB l)) ∧ Below w.heap.size w w' := by
  have hm := Kd.C_max hC
  have HO := Mine.start w
  obtain ⟨n, hn⟩ : ∃ n, l.length = n := ⟨_, rfl⟩
  rw [hn] at hm hq ⊢
  have HN := Lib.hid hn
  have HC := Lib.hid hC
  clear hn hC
  have b1 : decide ((16 : Int) < (n : Int)) = true := decide_eq_true (by omega)
  have b2 : decide (16 < n) = true := decide_eq_true hq
  have HR : Hid (listedB l = false) := Lib.hid (by
    unfold listedB
    rw [HN.out, b2]
    rfl)
  clear hq
  go_enter Tryd.func45, Tryd.ntmps45
  go_wp2
  go_ret
  exact ⟨retB HR.out.symm, Below.refl _ _⟩
set_option maxRecDepth 100000 in
set_option maxHeartbeats 4000000 in
theorem listed_some (A : Option Addr) (c : Nat) (l : List (List Int)) (w : World) (hC : (Kd.slice 3 (Kd.int .i64)).C w A l.length l) (hq : ¬ 16 < l.length ∧ l.length ≠ 1) :
    Calls Tryd.prog 45 #[.slice A l.length c] w fun e w' => e = .returned (.bool (listedB l)) ∧ Below w.heap.size w w' := by
  have hm := Kd.C_max hC
  have HO := Mine.start w
  obtain ⟨n, hn⟩ : ∃ n, l.length = n := ⟨_, rfl⟩
  rw [hn] at hm hq ⊢
  have HN := Lib.hid hn
  have HC := Lib.hid hC
  clear hn hC
  obtain ⟨hq, hq1⟩ := hq
  have b1 : decide ((16 : Int) < (n : Int)) = false := decide_eq_false (by omega)
  have b2 : decide (16 < n) = false := decide_eq_false hq
  have e1 : ((n : Int) == 1) = false := beq_eq_false_iff_ne.2 (by omega)
  have e2 : (n == 1) = false := beq_eq_false_iff_ne.2 hq1
  have HX : Hid ((decide (16 < l.length) || decide (l = [[-1]])) = false) := Lib.hid (by
    rw [HN.out, b2, decide_eq_false (fun e => hq1 (by rw [← HN.out, e]; rfl))]
    rfl)
  clear hq hq1
  go_enter Tryd.func45, Tryd.ntmps45
  go_wp2
  go_loopw [23] (fun i wr => ∃ k : Nat, k ≤ n ∧ i = .int .i64 k ∧ Below w.heap.size w wr ∧ Hid (∀ j, j < k → paramB (l.getD j []) = true)) (fun i _ => n - (intOf i).toNat)
  case atStart => exact ⟨0, Nat.zero_le _, rfl, HO.below, Lib.hid (fun j hj => by omega)⟩
  case round =>
    obtain ⟨k, hk, rfl, hbw, HG⟩ := hrel
    by_cases hlt : k < n
    · obtain ⟨b, oo, A', c', hAA, hcell, _, hrow⟩ := rows_get (Kd.C_below HC.out hbw) (k := k) (by rw [HN.out]; exact hlt)
      cases hAA
      obtain ⟨p, hp⟩ : ∃ p, l.getD k [] = p := ⟨_, rfl⟩
      rw [hp] at hcell hrow
      have HP := Lib.hid hp
      have hb1 : decide ((k : Int) < (n : Int)) = true := decide_eq_true (by omega)
      obtain ⟨m, hm⟩ : ∃ m, p.length = m := ⟨_, rfl⟩
      rw [hm] at hcell hrow
      have hmm := Kd.C_max hrow
      have HKL : Hid (k < l.length) := Lib.hid (by rw [HN.out]; exact hlt)
      have HK := Lib.hid hk
      clear hp
      cases ha : p.all partB
      · have HR : Hid (listedB l = false) := Lib.hid (by
          unfold listedB
          rw [not_all (z := []) HKL.out (by rw [HP.out]; unfold paramB; rw [ha]; rfl), Bool.and_false])
        have cC := fun W hW => oddAt_calls A' c' p W (by rw [hm]; exact Kd.C_below hrow hW) true (by rw [ha]; rfl)
        rw [hm] at cC
        have HCC := Lib.hid cC
        have HB := Lib.hid hbw
        clear ha hm hrow cC HG hk
        go_wp2_with (go_at_call 60; refine (HCC.out _ (Below.refl _ _)).mono ?_; rintro e w' ⟨rfl, rfl⟩)
        go_ret
        exact ⟨retB HR.out.symm, HB.out⟩
      · have cC := fun W hW => oddAt_calls A' c' p W (by rw [hm]; exact Kd.C_below hrow hW) false (by rw [ha]; rfl)
        rw [hm] at cC
        have HCC := Lib.hid cC
        have HB := Lib.hid hbw
        have HM := Lib.hid hm
        have HA := Lib.hid ha
        clear ha hm hrow cC
        by_cases h1 : m < 1
        · have b1 : decide ((m : Int) < 1) = true := decide_eq_true (by omega)
          have b2 : decide (m < 1) = true := decide_eq_true h1
          have HR : Hid (listedB l = false) := Lib.hid (by
            unfold listedB
            rw [not_all (z := []) HKL.out (by rw [HP.out]; unfold paramB; rw [HM.out, decide_eq_false (show ¬ 1 ≤ m by omega)]; simp), Bool.and_false])
          clear HG hk h1
          go_wp2_with (go_at_call 60; refine (HCC.out _ (Below.refl _ _)).mono ?_; rintro e w' ⟨rfl, rfl⟩)
          go_ret
          exact ⟨retB HR.out.symm, HB.out⟩
        · have b1 : decide ((m : Int) < 1) = false := decide_eq_false (by omega)
          have b2 : decide (m < 1) = false := decide_eq_false h1
          by_cases h8 : 8 < m
          · have b3 : decide ((8 : Int) < (m : Int)) = true := decide_eq_true (by omega)
            have b4 : decide (8 < m) = true := decide_eq_true h8
            have HR : Hid (listedB l = false) := Lib.hid (by
              unfold listedB
              rw [not_all (z := []) HKL.out (by rw [HP.out]; unfold paramB; rw [HM.out, decide_eq_false (show ¬ m ≤ 8 by omega)]; simp), Bool.and_false])
            clear HG hk h1 h8
            go_wp2_with (go_at_call 60; refine (HCC.out _ (Below.refl _ _)).mono ?_; rintro e w' ⟨rfl, rfl⟩)
            go_ret
            exact ⟨retB HR.out.symm, HB.out⟩
          · have b3 : decide ((8 : Int) < (m : Int)) = false := decide_eq_false (by omega)
            have b4 : decide (8 < m) = false := decide_eq_false h8
            have HG2 : Hid (∀ j, j < k + 1 → paramB (l.getD j []) = true) := Lib.hid fun j hj => by
              by_cases e : j = k
              · subst e
                rw [HP.out]
                unfold paramB
                rw [HA.out, HM.out, decide_eq_true (show 1 ≤ m by omega), decide_eq_true (show m ≤ 8 by omega)]
                rfl
              · exact HG.out j (by omega)
            clear HG h1 h8
            go_wp2_with (go_at_call 60; refine (HCC.out _ (Below.refl _ _)).mono ?_; rintro e w' ⟨rfl, rfl⟩)
            go_roundw
            case rel => exact ⟨k + 1, by omega, by go_num, HB.out, HG2⟩
            case measure => simp [intOf]; omega
    · have hb1 : decide ((k : Int) < (n : Int)) = false := decide_eq_false (by omega)
      have HR : Hid (listedB l = true) := Lib.hid (by
        unfold listedB
        rw [HX.out, all_at ([] : List Int) fun j hj => HG.out j (by rw [HN.out] at hj; omega)]
        rfl)
      have HB := Lib.hid hbw
      clear HG hk hbw
      go_wp2
      go_ret
      exact ⟨retB HR.out.symm, HB.out⟩
set_option maxRecDepth 100000 in
set_option maxHeartbeats 4000000 in
theorem listed_one (A : Option Addr) (c : Nat) (l : List (List Int)) (w : World) (hC : (Kd.slice 3 (Kd.int .i64)).C w A l.length l) (hq : l.length = 1) :
    Calls Tryd.prog 45 #[.slice A l.length c] w fun e w' => e = .returned (.bool (listedB l)) ∧ Below w.heap.size w w' := by
  have hm := Kd.C_max hC
  have HO := Mine.start w
  obtain ⟨n, hn⟩ : ∃ n, l.length = n := ⟨_, rfl⟩
  rw [hn] at hm hq ⊢
  have HN := Lib.hid hn
  have HC := Lib.hid hC
  clear hn hC
  have HQ := Lib.hid hq
  obtain ⟨b, oo, A', c', rfl, hcell, _, hrow⟩ := rows_get HC.out (k := 0) (by rw [HN.out]; omega)
  obtain ⟨p, hp⟩ : ∃ p, l.getD 0 [] = p := ⟨_, rfl⟩
  rw [hp] at hcell hrow
  have hl1 : l = [p] := by
    have := HN.out.trans hq
    match l, this with
    | [x], _ => rw [← hp]; rfl
  have HL1 := Lib.hid hl1
  obtain ⟨m, hm2⟩ : ∃ m, p.length = m := ⟨_, rfl⟩
  have hcell2 : w.cell? ⟨b, oo, none⟩ = some (.slice A' m c') := by rw [hm2] at hcell; simpa using hcell
  obtain ⟨t, ht⟩ : ∃ t, decide (p = [-1]) = t := ⟨_, rfl⟩
  have HE : Hid (∀ (g : Nat) (W : World), Below w.heap.size w W → W.heap[g]? = some (.cells [Value.int .i64 (-1)].toArray 3 (0, 0)) → Calls Tryd.prog 52 #[.slice A' m c', .slice (some ⟨g, 0, none⟩) 1 1] W fun e w' => e = .returned (.bool t) ∧ Below W.heap.size W w') :=
    Lib.hid fun g W hW hg => by
      have h := equalI_calls A' (some ⟨g, 0, none⟩) c' 1 p [-1] W (Kd.C_below hrow hW) (lit_ints (xs := [-1]) hg (by decide))
      rw [hm2, ht] at h
      exact h
  have HT := Lib.hid ht
  have hblt : b < w.heap.size := World.block_lt_of_cell? w _ hcell2
  have HRD : Hid (∀ W : World, Below w.heap.size w W → W.cell? ⟨b, oo, none⟩ = some (.slice A' m c')) := Lib.hid fun W hW => (hW.cell (p := ⟨b, oo, none⟩) hblt).trans hcell2
  have b1 : decide ((16 : Int) < (n : Int)) = false := decide_eq_false (by omega)
  have b2 : decide (16 < n) = false := decide_eq_false (by omega)
  have e1 : ((n : Int) == 1) = true := beq_iff_eq.2 (by omega)
  have e2 : (n == 1) = true := beq_iff_eq.2 hq
  have e3 : decide ((0 : Int) < (n : Int)) = true := decide_eq_true (by omega)
  have e4 : 0 < n := by omega
  clear hp hl1 hm2 ht hcell hrow hblt hq
  cases t
  · have HX : Hid ((decide (16 < l.length) || decide (l = [[-1]])) = false) := Lib.hid (by
      have h := of_decide_eq_false HT.out
      rw [HN.out, b2, decide_eq_false (fun e => h (by rw [HL1.out] at e; injection e))]
      rfl)
    go_enter Tryd.func45, Tryd.ntmps45
    go_wp2_with (first
      | (go_at_call 52; refine (HE.out gQ _ HO.below (HO.at (.head _))).mono ?_; rintro eN wN ⟨rfl, hbN⟩; have HON := HO.call hbN; clear HO hbN; have HO := HON; clear HON)
      | ((with_reducible refine gate ?_); (first
      | ((with_reducible refine gateAt (N := 17) rfl ?_); refine own_lit HO rfl (n := 1) (cs := [.int .i64 (-1)]) (T := 3) (by first | (go_simp; done) | (go_simp; rfl)) ?_; clear HO; intro gQ wN hggQ HO; (simp only [List.nil_append, List.cons_append] at HO); (try simp only [Act.put, List.setIfInBounds_toArray, List.set_cons_zero, List.set_cons_succ]))
      | ((refine own_box HO rfl rfl rfl ?_); clear HO; intro gN wN hgN HO; (simp only [List.nil_append, List.cons_append] at HO); (try simp only [Act.put, List.setIfInBounds_toArray, List.set_cons_zero, List.set_cons_succ])))))
    go_loopw [23] (fun i wr => ∃ k : Nat, k ≤ n ∧ i = .int .i64 k ∧ Below w.heap.size w wr ∧ Hid (∀ j, j < k → paramB (l.getD j []) = true)) (fun i _ => n - (intOf i).toNat)
    case atStart => exact ⟨0, Nat.zero_le _, rfl, HO.below, Lib.hid (fun j hj => by omega)⟩
    case round =>
      obtain ⟨k, hk, rfl, hbw, HG⟩ := hrel
      by_cases hlt : k < n
      · obtain ⟨b, oo, A', c', hAA, hcell, _, hrow⟩ := rows_get (Kd.C_below HC.out hbw) (k := k) (by rw [HN.out]; exact hlt)
        cases hAA
        obtain ⟨p, hp⟩ : ∃ p, l.getD k [] = p := ⟨_, rfl⟩
        rw [hp] at hcell hrow
        have HP := Lib.hid hp
        have hb1 : decide ((k : Int) < (n : Int)) = true := decide_eq_true (by omega)
        obtain ⟨m, hm⟩ : ∃ m, p.length = m := ⟨_, rfl⟩
        rw [hm] at hcell hrow
        have hmm := Kd.C_max hrow
        have HKL : Hid (k < l.length) := Lib.hid (by rw [HN.out]; exact hlt)
        have HK := Lib.hid hk
        clear hp
        cases ha : p.all partB
        · have HR : Hid (listedB l = false) := Lib.hid (by
            unfold listedB
            rw [not_all (z := []) HKL.out (by rw [HP.out]; unfold paramB; rw [ha]; rfl), Bool.and_false])
          have cC := fun W hW => oddAt_calls A' c' p W (by rw [hm]; exact Kd.C_below hrow hW) true (by rw [ha]; rfl)
          rw [hm] at cC
          have HCC := Lib.hid cC
          have HB := Lib.hid hbw
          clear ha hm hrow cC HG hk
          go_wp2_with (go_at_call 60; refine (HCC.out _ (Below.refl _ _)).mono ?_; rintro e w' ⟨rfl, rfl⟩)
          go_ret
          exact ⟨retB HR.out.symm, HB.out⟩
        · have cC := fun W hW => oddAt_calls A' c' p W (by rw [hm]; exact Kd.C_below hrow hW) false (by rw [ha]; rfl)
          rw [hm] at cC
          have HCC := Lib.hid cC
          have HB := Lib.hid hbw
          have HM := Lib.hid hm
          have HA := Lib.hid ha
          clear ha hm hrow cC
          by_cases h1 : m < 1
          · have b1 : decide ((m : Int) < 1) = true := decide_eq_true (by omega)
            have b2 : decide (m < 1) = true := decide_eq_true h1
            have HR : Hid (listedB l = false) := Lib.hid (by
              unfold listedB
              rw [not_all (z := []) HKL.out (by rw [HP.out]; unfold paramB; rw [HM.out, decide_eq_false (show ¬ 1 ≤ m by omega)]; simp), Bool.and_false])
            clear HG hk h1
            go_wp2_with (go_at_call 60; refine (HCC.out _ (Below.refl _ _)).mono ?_; rintro e w' ⟨rfl, rfl⟩)
            go_ret
            exact ⟨retB HR.out.symm, HB.out⟩
          · have b1 : decide ((m : Int) < 1) = false := decide_eq_false (by omega)
            have b2 : decide (m < 1) = false := decide_eq_false h1
            by_cases h8 : 8 < m
            · have b3 : decide ((8 : Int) < (m : Int)) = true := decide_eq_true (by omega)
              have b4 : decide (8 < m) = true := decide_eq_true h8
              have HR : Hid (listedB l = false) := Lib.hid (by
                unfold listedB
                rw [not_all (z := []) HKL.out (by rw [HP.out]; unfold paramB; rw [HM.out, decide_eq_false (show ¬ m ≤ 8 by omega)]; simp), Bool.and_false])
              clear HG hk h1 h8
              go_wp2_with (go_at_call 60; refine (HCC.out _ (Below.refl _ _)).mono ?_; rintro e w' ⟨rfl, rfl⟩)
              go_ret
              exact ⟨retB HR.out.symm, HB.out⟩
            · have b3 : decide ((8 : Int) < (m : Int)) = false := decide_eq_false (by omega)
              have b4 : decide (8 < m) = false := decide_eq_false h8
              have HG2 : Hid (∀ j, j < k + 1 → paramB (l.getD j []) = true) := Lib.hid fun j hj => by
                by_cases e : j = k
                · subst e
                  rw [HP.out]
                  unfold paramB
                  rw [HA.out, HM.out, decide_eq_true (show 1 ≤ m by omega), decide_eq_true (show m ≤ 8 by omega)]
                  rfl
                · exact HG.out j (by omega)
              clear HG h1 h8
              go_wp2_with (go_at_call 60; refine (HCC.out _ (Below.refl _ _)).mono ?_; rintro e w' ⟨rfl, rfl⟩)
              go_roundw
              case rel => exact ⟨k + 1, by omega, by go_num, HB.out, HG2⟩
              case measure => simp [intOf]; omega
      · have hb1 : decide ((k : Int) < (n : Int)) = false := decide_eq_false (by omega)
        have HR : Hid (listedB l = true) := Lib.hid (by
          unfold listedB
          rw [HX.out, all_at ([] : List Int) fun j hj => HG.out j (by rw [HN.out] at hj; omega)]
          rfl)
        have HB := Lib.hid hbw
        clear HG hk hbw
        go_wp2
        go_ret
        exact ⟨retB HR.out.symm, HB.out⟩
  · have HR : Hid (listedB l = false) := Lib.hid (by
      have h := of_decide_eq_true HT.out
      unfold listedB
      rw [HL1.out, h]
      simp)
    go_enter Tryd.func45, Tryd.ntmps45
    go_wp2_with (first
      | (go_at_call 52; refine (HE.out gQ _ HO.below (HO.at (.head _))).mono ?_; rintro eN wN ⟨rfl, hbN⟩; have HON := HO.call hbN; clear HO hbN; have HO := HON; clear HON)
      | ((with_reducible refine gate ?_); (first
      | ((with_reducible refine gateAt (N := 17) rfl ?_); refine own_lit HO rfl (n := 1) (cs := [.int .i64 (-1)]) (T := 3) (by first | (go_simp; done) | (go_simp; rfl)) ?_; clear HO; intro gQ wN hggQ HO; (simp only [List.nil_append, List.cons_append] at HO); (try simp only [Act.put, List.setIfInBounds_toArray, List.set_cons_zero, List.set_cons_succ]))
      | ((refine own_box HO rfl rfl rfl ?_); clear HO; intro gN wN hgN HO; (simp only [List.nil_append, List.cons_append] at HO); (try simp only [Act.put, List.setIfInBounds_toArray, List.set_cons_zero, List.set_cons_succ])))))
    go_ret
    exact ⟨retB HR.out.symm, HO.below⟩
theorem listed_calls (A : Option Addr) (c : Nat) (l : List (List Int)) (w : World) (hC : (Kd.slice 3 (Kd.int .i64)).C w A l.length l) :
    Calls Tryd.prog 45 #[.slice A l.length c] w fun e w' => e = .returned (.bool (listedB l)) ∧ Below w.heap.size w w' := by
  by_cases h : 16 < l.length
  · exact listed_many A c l w hC h
  · by_cases h1 : l.length = 1
    · exact listed_one A c l w hC h1
    · exact listed_some A c l w hC ⟨h, h1⟩
end Go.Proofs.YtclnanhgcnopdaaDoor
end
section
namespace Go.Proofs.YtclnanhgcnopdaaDoor
set_option linter.unusedVariables false
set_option linter.unusedSimpArgs false
open Go.RowKit Kit Go.Proofs.YtclnanhgcnopdaaDoorW.PrintWords
attribute [local irreducible] wpList Calls wpQuiet
theorem rows_ext {xs ys : List (List Int)} (hl : xs.length = ys.length) (h : ∀ j, j < xs.length → xs.getD j [] = ys.getD j []) : xs = ys := by
  refine List.ext_getElem hl fun j h1 h2 => ?_
  have := h j h1
  simpa [List.getD, h1, h2] using this
set_option maxHeartbeats 1000000 in
theorem equalRows_calls (A B : Option Addr) (c d : Nat) (xs ys : List (List Int)) (w : World) (hA : (Kd.slice 3 (Kd.int .i64)).C w A xs.length xs) (hB : (Kd.slice 3 (Kd.int .i64)).C w B ys.length ys) (t : Bool) (ht : decide (xs = ys) = t) :
    Calls Tryd.prog 51 #[.slice A xs.length c, .slice B ys.length d, .func (.func 52) #[] #[]] w fun e w' => e = .returned (.bool t) ∧ Below w.heap.size w w' := by
  have hm1 := Kd.C_max hA
  have hm2 := Kd.C_max hB
  obtain ⟨n, hn⟩ : ∃ n, xs.length = n := ⟨_, rfl⟩
  obtain ⟨m, hm⟩ : ∃ m, ys.length = m := ⟨_, rfl⟩
  have hA2 := hA
  have hB2 := hB
  rw [hn] at hm1 ⊢
  rw [hm] at hm2 ⊢
  have HN := Lib.hid hn
  have HM := Lib.hid hm
  have HA := Lib.hid hA
  have HB := Lib.hid hB
  have HT := Lib.hid ht
  clear hn hm hA hB ht hA2 hB2
  by_cases h : n = m
  · obtain rfl : n = m := h
    go_enter Tryd.func51, Tryd.ntmps51
    go_wp2
    go_loopw [17] (fun i wr => ∃ k : Nat, k ≤ n ∧ i = .int .i64 k ∧ Below w.heap.size w wr ∧ Hid (∀ j, j < k → xs.getD j [] = ys.getD j [])) (fun i _ => n - (intOf i).toNat)
    case atStart => exact ⟨0, Nat.zero_le _, rfl, Below.refl _ _, Lib.hid (fun j hj => by omega)⟩
    case round =>
      obtain ⟨k, hk, rfl, hbw, HG⟩ := hrel
      by_cases hlt : k < n
      · obtain ⟨b1, o1, A1, c1, rfl, hcell1, _, hrow1⟩ := rows_get (Kd.C_below HA.out hbw) (k := k) (by rw [HN.out]; exact hlt)
        obtain ⟨b2, o2, A2, c2, rfl, hcell2, _, hrow2⟩ := rows_get (Kd.C_below HB.out hbw) (k := k) (by rw [HM.out]; exact hlt)
        obtain ⟨p, hp⟩ : ∃ p, xs.getD k [] = p := ⟨_, rfl⟩
        obtain ⟨q, hq⟩ : ∃ q, ys.getD k [] = q := ⟨_, rfl⟩
        rw [hp] at hcell1 hrow1
        rw [hq] at hcell2 hrow2
        have HP := Lib.hid hp
        have HQ := Lib.hid hq
        have hb1 : decide ((k : Int) < (n : Int)) = true := decide_eq_true (by omega)
        have HK := Lib.hid (And.intro hk hlt)
        clear hp hq
        have hE := equalI_calls A1 A2 c1 c2 p q wr hrow1 hrow2
        obtain ⟨a1, ha1⟩ : ∃ a1, p.length = a1 := ⟨_, rfl⟩
        obtain ⟨a2, ha2⟩ : ∃ a2, q.length = a2 := ⟨_, rfl⟩
        rw [ha1] at hcell1 hE
        rw [ha2] at hcell2 hE
        have HBW := Lib.hid hbw
        by_cases he : p = q
        · rw [decide_eq_true he] at hE
          have HE := Lib.hid hE
          have HG2 : Hid (∀ j, j < k + 1 → xs.getD j [] = ys.getD j []) := Lib.hid fun j hj => by
            by_cases e : j = k
            · subst e; rw [HP.out, HQ.out]; exact he
            · exact HG.out j (by omega)
          clear he hE ha1 ha2 hrow1 hrow2 HG
          go_wp2_with (go_at_call 52; refine HE.out.mono ?_; rintro e w2 ⟨rfl, hb⟩; have HB2 := Lib.hid (HBW.out.trans (hb.mono HBW.out.size)); clear hb)
          go_roundw
          case rel => exact ⟨k + 1, by omega, by go_num, HB2.out, HG2⟩
          case measure => simp [intOf]; omega
        · rw [decide_eq_false he] at hE
          have HE := Lib.hid hE
          have HR : Hid (t = false) := Lib.hid (by rw [← HT.out]; exact decide_eq_false fun e => he (by rw [← HP.out, ← HQ.out, e]))
          clear he hE ha1 ha2 hrow1 hrow2 HG hk
          go_wp2_with (go_at_call 52; refine HE.out.mono ?_; rintro e w2 ⟨rfl, hb⟩; have HB2 := Lib.hid (HBW.out.trans (hb.mono HBW.out.size)); clear hb)
          go_ret
          exact ⟨retB HR.out.symm, HB2.out⟩
      · have hb1 : decide ((k : Int) < (n : Int)) = false := decide_eq_false (by omega)
        have HR : Hid (t = true) := Lib.hid (by rw [← HT.out]; exact decide_eq_true (rows_ext (by rw [HN.out, HM.out]) fun j hj => HG.out j (by rw [HN.out] at hj; omega)))
        have HBW := Lib.hid hbw
        clear HG hk hbw
        go_wp2
        go_ret
        exact ⟨retB HR.out.symm, HBW.out⟩
  · have e1 : ((n : Int) == (m : Int)) = false := beq_eq_false_iff_ne.2 (by omega)
    have e2 : ((n : Int) != (m : Int)) = true := bne_iff_ne.2 (by omega)
    have e3 : (n == m) = false := beq_eq_false_iff_ne.2 h
    have e4 : (n != m) = true := bne_iff_ne.2 h
    have HR : Hid (t = false) := Lib.hid (by rw [← HT.out]; exact decide_eq_false fun e => h (by rw [← HN.out, ← HM.out, e]))
    clear h
    go_enter Tryd.func51, Tryd.ntmps51
    go_wp2
    go_ret
    exact ⟨retB HR.out.symm, Below.refl _ _⟩
set_option maxRecDepth 100000 in
set_option maxHeartbeats 4000000 in
theorem same_calls (k0 v0 f0 k1 v1 f1 : Int) (i0 d0 i1 d1 : ByteArray) (A B : Option Addr) (c0 c1 : Nat) (l0 l1 : List (List Int)) (w : World) (hA : (Kd.slice 3 (Kd.int .i64)).C w A l0.length l0) (hB : (Kd.slice 3 (Kd.int .i64)).C w B l1.length l1)
    (t : Bool) (ht : decide (l0 = l1 ∧ k0 = k1 ∧ v0 = v1 ∧ f0 = f1 ∧ i0 = i1 ∧ d0 = d1) = t) :
    Calls Tryd.prog 35 #[.agg #[.int .i64 k0, .int .u8 v0, .slice A l0.length c0, .string i0, .int .u8 f0, .string d0], .agg #[.int .i64 k1, .int .u8 v1, .slice B l1.length c1, .string i1, .int .u8 f1, .string d1]] w fun e w' => e = .returned (.bool t) ∧ Below w.heap.size w w' := by
  have HO := Mine.start w
  have HE : Hid (∀ W, Below w.heap.size w W → Calls Tryd.prog 51 #[.slice A l0.length c0, .slice B l1.length c1, .func (.func 52) #[] #[]] W fun e w' => e = .returned (.bool (decide (l0 = l1))) ∧ Below W.heap.size W w') :=
    Lib.hid fun W hW => equalRows_calls A B c0 c1 l0 l1 W (Kd.C_below hA hW) (Kd.C_below hB hW) _ rfl
  have HT := Lib.hid ht
  clear hA hB ht
  by_cases hl : l0 = l1
  · have HL := Lib.hid (decide_eq_true hl)
    by_cases h0 : k0 = k1
    case neg =>
      have e0 : (k0 == k1) = false := beq_eq_false_iff_ne.2 h0
      have g0 : decide (k0 = k1) = false := decide_eq_false h0
      have HE2 := HE
      rw [HL.out] at HE2
      have HR : Hid (t = false) := Lib.hid (by rw [← HT.out]; exact decide_eq_false fun e => h0 e.2.1)
      clear HL hl h0
      clear HE HT
      go_enter Tryd.func35, Tryd.ntmps35
      go_wp2_with (first
            | (go_at_call 51; refine (HE2.out _ HO.below).mono ?_; rintro eN wN ⟨rfl, hbN⟩; have HON := HO.call hbN; clear HO hbN; have HO := HON; clear HON)
            | ((with_reducible refine gate ?_); (first
            | ((refine own_box HO rfl rfl rfl ?_); clear HO; intro gN wN hgN HO; (simp only [List.nil_append, List.cons_append] at HO); (try simp only [Act.put, List.setIfInBounds_toArray, List.set_cons_zero, List.set_cons_succ]))
            | ((refine own_load1 (T := 26) HO rfl rfl rfl (by first | exact .head _ | exact .tail _ (.head _) | exact .tail _ (.tail _ (.head _)) | exact .tail _ (.tail _ (.tail _ (.head _))) | exact .tail _ (.tail _ (.tail _ (.tail _ (.head _)))) | exact .tail _ (.tail _ (.tail _ (.tail _ (.tail _ (.head _)))))) Tryd.isAgg26 rfl ?_); (try simp only [Act.put, List.setIfInBounds_toArray, List.set_cons_zero, List.set_cons_succ]))
            | ((refine own_load1 (T := 3) HO rfl rfl rfl (by first | exact .head _ | exact .tail _ (.head _) | exact .tail _ (.tail _ (.head _)) | exact .tail _ (.tail _ (.tail _ (.head _))) | exact .tail _ (.tail _ (.tail _ (.tail _ (.head _)))) | exact .tail _ (.tail _ (.tail _ (.tail _ (.tail _ (.head _)))))) Tryd.isAgg3 rfl ?_); (try simp only [Act.put, List.setIfInBounds_toArray, List.set_cons_zero, List.set_cons_succ]))
            | ((refine own_load1 (T := 5) HO rfl rfl rfl (by first | exact .head _ | exact .tail _ (.head _) | exact .tail _ (.tail _ (.head _)) | exact .tail _ (.tail _ (.tail _ (.head _))) | exact .tail _ (.tail _ (.tail _ (.tail _ (.head _)))) | exact .tail _ (.tail _ (.tail _ (.tail _ (.tail _ (.head _)))))) Tryd.isAgg5 rfl ?_); (try simp only [Act.put, List.setIfInBounds_toArray, List.set_cons_zero, List.set_cons_succ]))
            | ((refine own_load1 (T := 9) HO rfl rfl rfl (by first | exact .head _ | exact .tail _ (.head _) | exact .tail _ (.tail _ (.head _)) | exact .tail _ (.tail _ (.tail _ (.head _))) | exact .tail _ (.tail _ (.tail _ (.tail _ (.head _)))) | exact .tail _ (.tail _ (.tail _ (.tail _ (.tail _ (.head _)))))) Tryd.isAgg9 rfl ?_); (try simp only [Act.put, List.setIfInBounds_toArray, List.set_cons_zero, List.set_cons_succ]))
            | ((refine own_store (T := 26) HO rfl rfl rfl rfl (by first | exact .here | exact .there (.here) | exact .there (.there (.here)) | exact .there (.there (.there (.here))) | exact .there (.there (.there (.there (.here)))) | exact .there (.there (.there (.there (.there (.here)))))) Tryd.sizeOf26 (by repeat constructor) rfl ?_); clear HO; intro wN HO; (try simp only [Act.put, List.setIfInBounds_toArray, List.set_cons_zero, List.set_cons_succ]))
            | ((refine own_store (T := 3) HO rfl rfl rfl rfl (by first | exact .here | exact .there (.here) | exact .there (.there (.here)) | exact .there (.there (.there (.here))) | exact .there (.there (.there (.there (.here)))) | exact .there (.there (.there (.there (.there (.here)))))) Tryd.sizeOf3 (by repeat constructor) rfl ?_); clear HO; intro wN HO; (try simp only [Act.put, List.setIfInBounds_toArray, List.set_cons_zero, List.set_cons_succ]))
            | ((refine own_store (T := 5) HO rfl rfl rfl rfl (by first | exact .here | exact .there (.here) | exact .there (.there (.here)) | exact .there (.there (.there (.here))) | exact .there (.there (.there (.there (.here)))) | exact .there (.there (.there (.there (.there (.here)))))) Tryd.sizeOf5 (by repeat constructor) rfl ?_); clear HO; intro wN HO; (try simp only [Act.put, List.setIfInBounds_toArray, List.set_cons_zero, List.set_cons_succ]))
            | ((refine own_store (T := 9) HO rfl rfl rfl rfl (by first | exact .here | exact .there (.here) | exact .there (.there (.here)) | exact .there (.there (.there (.here))) | exact .there (.there (.there (.there (.here)))) | exact .there (.there (.there (.there (.there (.here)))))) Tryd.sizeOf9 (by repeat constructor) rfl ?_); clear HO; intro wN HO; (try simp only [Act.put, List.setIfInBounds_toArray, List.set_cons_zero, List.set_cons_succ])))))
      go_ret
      exact ⟨retB HR.out.symm, HO.below⟩
    case pos =>
      have e0 : (k0 == k1) = true := beq_iff_eq.2 h0
      have g0 : decide (k0 = k1) = true := decide_eq_true h0
      by_cases h1 : v0 = v1
      case neg =>
        have e1 : (v0 == v1) = false := beq_eq_false_iff_ne.2 h1
        have g1 : decide (v0 = v1) = false := decide_eq_false h1
        have HE2 := HE
        rw [HL.out] at HE2
        have HR : Hid (t = false) := Lib.hid (by rw [← HT.out]; exact decide_eq_false fun e => h1 e.2.2.1)
        clear HL hl h0 h1
        clear HE HT
        go_enter Tryd.func35, Tryd.ntmps35
        go_wp2_with (first
              | (go_at_call 51; refine (HE2.out _ HO.below).mono ?_; rintro eN wN ⟨rfl, hbN⟩; have HON := HO.call hbN; clear HO hbN; have HO := HON; clear HON)
              | ((with_reducible refine gate ?_); (first
              | ((refine own_box HO rfl rfl rfl ?_); clear HO; intro gN wN hgN HO; (simp only [List.nil_append, List.cons_append] at HO); (try simp only [Act.put, List.setIfInBounds_toArray, List.set_cons_zero, List.set_cons_succ]))
              | ((refine own_load1 (T := 26) HO rfl rfl rfl (by first | exact .head _ | exact .tail _ (.head _) | exact .tail _ (.tail _ (.head _)) | exact .tail _ (.tail _ (.tail _ (.head _))) | exact .tail _ (.tail _ (.tail _ (.tail _ (.head _)))) | exact .tail _ (.tail _ (.tail _ (.tail _ (.tail _ (.head _)))))) Tryd.isAgg26 rfl ?_); (try simp only [Act.put, List.setIfInBounds_toArray, List.set_cons_zero, List.set_cons_succ]))
              | ((refine own_load1 (T := 3) HO rfl rfl rfl (by first | exact .head _ | exact .tail _ (.head _) | exact .tail _ (.tail _ (.head _)) | exact .tail _ (.tail _ (.tail _ (.head _))) | exact .tail _ (.tail _ (.tail _ (.tail _ (.head _)))) | exact .tail _ (.tail _ (.tail _ (.tail _ (.tail _ (.head _)))))) Tryd.isAgg3 rfl ?_); (try simp only [Act.put, List.setIfInBounds_toArray, List.set_cons_zero, List.set_cons_succ]))
              | ((refine own_load1 (T := 5) HO rfl rfl rfl (by first | exact .head _ | exact .tail _ (.head _) | exact .tail _ (.tail _ (.head _)) | exact .tail _ (.tail _ (.tail _ (.head _))) | exact .tail _ (.tail _ (.tail _ (.tail _ (.head _)))) | exact .tail _ (.tail _ (.tail _ (.tail _ (.tail _ (.head _)))))) Tryd.isAgg5 rfl ?_); (try simp only [Act.put, List.setIfInBounds_toArray, List.set_cons_zero, List.set_cons_succ]))
              | ((refine own_load1 (T := 9) HO rfl rfl rfl (by first | exact .head _ | exact .tail _ (.head _) | exact .tail _ (.tail _ (.head _)) | exact .tail _ (.tail _ (.tail _ (.head _))) | exact .tail _ (.tail _ (.tail _ (.tail _ (.head _)))) | exact .tail _ (.tail _ (.tail _ (.tail _ (.tail _ (.head _)))))) Tryd.isAgg9 rfl ?_); (try simp only [Act.put, List.setIfInBounds_toArray, List.set_cons_zero, List.set_cons_succ]))
              | ((refine own_store (T := 26) HO rfl rfl rfl rfl (by first | exact .here | exact .there (.here) | exact .there (.there (.here)) | exact .there (.there (.there (.here))) | exact .there (.there (.there (.there (.here)))) | exact .there (.there (.there (.there (.there (.here)))))) Tryd.sizeOf26 (by repeat constructor) rfl ?_); clear HO; intro wN HO; (try simp only [Act.put, List.setIfInBounds_toArray, List.set_cons_zero, List.set_cons_succ]))
              | ((refine own_store (T := 3) HO rfl rfl rfl rfl (by first | exact .here | exact .there (.here) | exact .there (.there (.here)) | exact .there (.there (.there (.here))) | exact .there (.there (.there (.there (.here)))) | exact .there (.there (.there (.there (.there (.here)))))) Tryd.sizeOf3 (by repeat constructor) rfl ?_); clear HO; intro wN HO; (try simp only [Act.put, List.setIfInBounds_toArray, List.set_cons_zero, List.set_cons_succ]))
              | ((refine own_store (T := 5) HO rfl rfl rfl rfl (by first | exact .here | exact .there (.here) | exact .there (.there (.here)) | exact .there (.there (.there (.here))) | exact .there (.there (.there (.there (.here)))) | exact .there (.there (.there (.there (.there (.here)))))) Tryd.sizeOf5 (by repeat constructor) rfl ?_); clear HO; intro wN HO; (try simp only [Act.put, List.setIfInBounds_toArray, List.set_cons_zero, List.set_cons_succ]))
              | ((refine own_store (T := 9) HO rfl rfl rfl rfl (by first | exact .here | exact .there (.here) | exact .there (.there (.here)) | exact .there (.there (.there (.here))) | exact .there (.there (.there (.there (.here)))) | exact .there (.there (.there (.there (.there (.here)))))) Tryd.sizeOf9 (by repeat constructor) rfl ?_); clear HO; intro wN HO; (try simp only [Act.put, List.setIfInBounds_toArray, List.set_cons_zero, List.set_cons_succ])))))
        go_ret
        exact ⟨retB HR.out.symm, HO.below⟩
      case pos =>
        have e1 : (v0 == v1) = true := beq_iff_eq.2 h1
        have g1 : decide (v0 = v1) = true := decide_eq_true h1
        by_cases h2 : f0 = f1
        case neg =>
          have e2 : (f0 == f1) = false := beq_eq_false_iff_ne.2 h2
          have g2 : decide (f0 = f1) = false := decide_eq_false h2
          have HE2 := HE
          rw [HL.out] at HE2
          have HR : Hid (t = false) := Lib.hid (by rw [← HT.out]; exact decide_eq_false fun e => h2 e.2.2.2.1)
          clear HL hl h0 h1 h2
          clear HE HT
          go_enter Tryd.func35, Tryd.ntmps35
          go_wp2_with (first
                | (go_at_call 51; refine (HE2.out _ HO.below).mono ?_; rintro eN wN ⟨rfl, hbN⟩; have HON := HO.call hbN; clear HO hbN; have HO := HON; clear HON)
                | ((with_reducible refine gate ?_); (first
                | ((refine own_box HO rfl rfl rfl ?_); clear HO; intro gN wN hgN HO; (simp only [List.nil_append, List.cons_append] at HO); (try simp only [Act.put, List.setIfInBounds_toArray, List.set_cons_zero, List.set_cons_succ]))
                | ((refine own_load1 (T := 26) HO rfl rfl rfl (by first | exact .head _ | exact .tail _ (.head _) | exact .tail _ (.tail _ (.head _)) | exact .tail _ (.tail _ (.tail _ (.head _))) | exact .tail _ (.tail _ (.tail _ (.tail _ (.head _)))) | exact .tail _ (.tail _ (.tail _ (.tail _ (.tail _ (.head _)))))) Tryd.isAgg26 rfl ?_); (try simp only [Act.put, List.setIfInBounds_toArray, List.set_cons_zero, List.set_cons_succ]))
                | ((refine own_load1 (T := 3) HO rfl rfl rfl (by first | exact .head _ | exact .tail _ (.head _) | exact .tail _ (.tail _ (.head _)) | exact .tail _ (.tail _ (.tail _ (.head _))) | exact .tail _ (.tail _ (.tail _ (.tail _ (.head _)))) | exact .tail _ (.tail _ (.tail _ (.tail _ (.tail _ (.head _)))))) Tryd.isAgg3 rfl ?_); (try simp only [Act.put, List.setIfInBounds_toArray, List.set_cons_zero, List.set_cons_succ]))
                | ((refine own_load1 (T := 5) HO rfl rfl rfl (by first | exact .head _ | exact .tail _ (.head _) | exact .tail _ (.tail _ (.head _)) | exact .tail _ (.tail _ (.tail _ (.head _))) | exact .tail _ (.tail _ (.tail _ (.tail _ (.head _)))) | exact .tail _ (.tail _ (.tail _ (.tail _ (.tail _ (.head _)))))) Tryd.isAgg5 rfl ?_); (try simp only [Act.put, List.setIfInBounds_toArray, List.set_cons_zero, List.set_cons_succ]))
                | ((refine own_load1 (T := 9) HO rfl rfl rfl (by first | exact .head _ | exact .tail _ (.head _) | exact .tail _ (.tail _ (.head _)) | exact .tail _ (.tail _ (.tail _ (.head _))) | exact .tail _ (.tail _ (.tail _ (.tail _ (.head _)))) | exact .tail _ (.tail _ (.tail _ (.tail _ (.tail _ (.head _)))))) Tryd.isAgg9 rfl ?_); (try simp only [Act.put, List.setIfInBounds_toArray, List.set_cons_zero, List.set_cons_succ]))
                | ((refine own_store (T := 26) HO rfl rfl rfl rfl (by first | exact .here | exact .there (.here) | exact .there (.there (.here)) | exact .there (.there (.there (.here))) | exact .there (.there (.there (.there (.here)))) | exact .there (.there (.there (.there (.there (.here)))))) Tryd.sizeOf26 (by repeat constructor) rfl ?_); clear HO; intro wN HO; (try simp only [Act.put, List.setIfInBounds_toArray, List.set_cons_zero, List.set_cons_succ]))
                | ((refine own_store (T := 3) HO rfl rfl rfl rfl (by first | exact .here | exact .there (.here) | exact .there (.there (.here)) | exact .there (.there (.there (.here))) | exact .there (.there (.there (.there (.here)))) | exact .there (.there (.there (.there (.there (.here)))))) Tryd.sizeOf3 (by repeat constructor) rfl ?_); clear HO; intro wN HO; (try simp only [Act.put, List.setIfInBounds_toArray, List.set_cons_zero, List.set_cons_succ]))
                | ((refine own_store (T := 5) HO rfl rfl rfl rfl (by first | exact .here | exact .there (.here) | exact .there (.there (.here)) | exact .there (.there (.there (.here))) | exact .there (.there (.there (.there (.here)))) | exact .there (.there (.there (.there (.there (.here)))))) Tryd.sizeOf5 (by repeat constructor) rfl ?_); clear HO; intro wN HO; (try simp only [Act.put, List.setIfInBounds_toArray, List.set_cons_zero, List.set_cons_succ]))
                | ((refine own_store (T := 9) HO rfl rfl rfl rfl (by first | exact .here | exact .there (.here) | exact .there (.there (.here)) | exact .there (.there (.there (.here))) | exact .there (.there (.there (.there (.here)))) | exact .there (.there (.there (.there (.there (.here)))))) Tryd.sizeOf9 (by repeat constructor) rfl ?_); clear HO; intro wN HO; (try simp only [Act.put, List.setIfInBounds_toArray, List.set_cons_zero, List.set_cons_succ])))))
          go_ret
          exact ⟨retB HR.out.symm, HO.below⟩
        case pos =>
          have e2 : (f0 == f1) = true := beq_iff_eq.2 h2
          have g2 : decide (f0 = f1) = true := decide_eq_true h2
          by_cases h3 : i0 = i1
          case neg =>
            have g3 : decide (i0 = i1) = false := decide_eq_false h3
            have k3 : (i0.toList == i1.toList) = false := by
              rw [beq_eq_false_iff_ne]; exact fun e => h3 (by rw [Lib.toList_data, Lib.toList_data] at e; exact ByteArray.ext (Array.toList_inj.1 e))
            have HE2 := HE
            rw [HL.out] at HE2
            have HR : Hid (t = false) := Lib.hid (by rw [← HT.out]; exact decide_eq_false fun e => h3 e.2.2.2.2.1)
            clear HL hl h0 h1 h2 h3
            clear HE HT
            go_enter Tryd.func35, Tryd.ntmps35
            go_wp2_with (first
                  | (go_at_call 51; refine (HE2.out _ HO.below).mono ?_; rintro eN wN ⟨rfl, hbN⟩; have HON := HO.call hbN; clear HO hbN; have HO := HON; clear HON)
                  | ((with_reducible refine gate ?_); (first
                  | ((refine own_box HO rfl rfl rfl ?_); clear HO; intro gN wN hgN HO; (simp only [List.nil_append, List.cons_append] at HO); (try simp only [Act.put, List.setIfInBounds_toArray, List.set_cons_zero, List.set_cons_succ]))
                  | ((refine own_load1 (T := 26) HO rfl rfl rfl (by first | exact .head _ | exact .tail _ (.head _) | exact .tail _ (.tail _ (.head _)) | exact .tail _ (.tail _ (.tail _ (.head _))) | exact .tail _ (.tail _ (.tail _ (.tail _ (.head _)))) | exact .tail _ (.tail _ (.tail _ (.tail _ (.tail _ (.head _)))))) Tryd.isAgg26 rfl ?_); (try simp only [Act.put, List.setIfInBounds_toArray, List.set_cons_zero, List.set_cons_succ]))
                  | ((refine own_load1 (T := 3) HO rfl rfl rfl (by first | exact .head _ | exact .tail _ (.head _) | exact .tail _ (.tail _ (.head _)) | exact .tail _ (.tail _ (.tail _ (.head _))) | exact .tail _ (.tail _ (.tail _ (.tail _ (.head _)))) | exact .tail _ (.tail _ (.tail _ (.tail _ (.tail _ (.head _)))))) Tryd.isAgg3 rfl ?_); (try simp only [Act.put, List.setIfInBounds_toArray, List.set_cons_zero, List.set_cons_succ]))
                  | ((refine own_load1 (T := 5) HO rfl rfl rfl (by first | exact .head _ | exact .tail _ (.head _) | exact .tail _ (.tail _ (.head _)) | exact .tail _ (.tail _ (.tail _ (.head _))) | exact .tail _ (.tail _ (.tail _ (.tail _ (.head _)))) | exact .tail _ (.tail _ (.tail _ (.tail _ (.tail _ (.head _)))))) Tryd.isAgg5 rfl ?_); (try simp only [Act.put, List.setIfInBounds_toArray, List.set_cons_zero, List.set_cons_succ]))
                  | ((refine own_load1 (T := 9) HO rfl rfl rfl (by first | exact .head _ | exact .tail _ (.head _) | exact .tail _ (.tail _ (.head _)) | exact .tail _ (.tail _ (.tail _ (.head _))) | exact .tail _ (.tail _ (.tail _ (.tail _ (.head _)))) | exact .tail _ (.tail _ (.tail _ (.tail _ (.tail _ (.head _)))))) Tryd.isAgg9 rfl ?_); (try simp only [Act.put, List.setIfInBounds_toArray, List.set_cons_zero, List.set_cons_succ]))
                  | ((refine own_store (T := 26) HO rfl rfl rfl rfl (by first | exact .here | exact .there (.here) | exact .there (.there (.here)) | exact .there (.there (.there (.here))) | exact .there (.there (.there (.there (.here)))) | exact .there (.there (.there (.there (.there (.here)))))) Tryd.sizeOf26 (by repeat constructor) rfl ?_); clear HO; intro wN HO; (try simp only [Act.put, List.setIfInBounds_toArray, List.set_cons_zero, List.set_cons_succ]))
                  | ((refine own_store (T := 3) HO rfl rfl rfl rfl (by first | exact .here | exact .there (.here) | exact .there (.there (.here)) | exact .there (.there (.there (.here))) | exact .there (.there (.there (.there (.here)))) | exact .there (.there (.there (.there (.there (.here)))))) Tryd.sizeOf3 (by repeat constructor) rfl ?_); clear HO; intro wN HO; (try simp only [Act.put, List.setIfInBounds_toArray, List.set_cons_zero, List.set_cons_succ]))
                  | ((refine own_store (T := 5) HO rfl rfl rfl rfl (by first | exact .here | exact .there (.here) | exact .there (.there (.here)) | exact .there (.there (.there (.here))) | exact .there (.there (.there (.there (.here)))) | exact .there (.there (.there (.there (.there (.here)))))) Tryd.sizeOf5 (by repeat constructor) rfl ?_); clear HO; intro wN HO; (try simp only [Act.put, List.setIfInBounds_toArray, List.set_cons_zero, List.set_cons_succ]))
                  | ((refine own_store (T := 9) HO rfl rfl rfl rfl (by first | exact .here | exact .there (.here) | exact .there (.there (.here)) | exact .there (.there (.there (.here))) | exact .there (.there (.there (.there (.here)))) | exact .there (.there (.there (.there (.there (.here)))))) Tryd.sizeOf9 (by repeat constructor) rfl ?_); clear HO; intro wN HO; (try simp only [Act.put, List.setIfInBounds_toArray, List.set_cons_zero, List.set_cons_succ])))))
            go_ret
            exact ⟨retB HR.out.symm, HO.below⟩
          case pos =>
            have g3 : decide (i0 = i1) = true := decide_eq_true h3
            have k3 : (i0.toList == i1.toList) = true := by rw [h3]; exact beq_self_eq_true _
            by_cases h4 : d0 = d1
            case neg =>
              have g4 : decide (d0 = d1) = false := decide_eq_false h4
              have k4 : (d0.toList == d1.toList) = false := by
                rw [beq_eq_false_iff_ne]; exact fun e => h4 (by rw [Lib.toList_data, Lib.toList_data] at e; exact ByteArray.ext (Array.toList_inj.1 e))
              have HE2 := HE
              rw [HL.out] at HE2
              have HR : Hid (t = false) := Lib.hid (by rw [← HT.out]; exact decide_eq_false fun e => h4 e.2.2.2.2.2)
              clear HL hl h0 h1 h2 h3 h4
              clear HE HT
              go_enter Tryd.func35, Tryd.ntmps35
              go_wp2_with (first
                    | (go_at_call 51; refine (HE2.out _ HO.below).mono ?_; rintro eN wN ⟨rfl, hbN⟩; have HON := HO.call hbN; clear HO hbN; have HO := HON; clear HON)
                    | ((with_reducible refine gate ?_); (first
                    | ((refine own_box HO rfl rfl rfl ?_); clear HO; intro gN wN hgN HO; (simp only [List.nil_append, List.cons_append] at HO); (try simp only [Act.put, List.setIfInBounds_toArray, List.set_cons_zero, List.set_cons_succ]))
                    | ((refine own_load1 (T := 26) HO rfl rfl rfl (by first | exact .head _ | exact .tail _ (.head _) | exact .tail _ (.tail _ (.head _)) | exact .tail _ (.tail _ (.tail _ (.head _))) | exact .tail _ (.tail _ (.tail _ (.tail _ (.head _)))) | exact .tail _ (.tail _ (.tail _ (.tail _ (.tail _ (.head _)))))) Tryd.isAgg26 rfl ?_); (try simp only [Act.put, List.setIfInBounds_toArray, List.set_cons_zero, List.set_cons_succ]))
                    | ((refine own_load1 (T := 3) HO rfl rfl rfl (by first | exact .head _ | exact .tail _ (.head _) | exact .tail _ (.tail _ (.head _)) | exact .tail _ (.tail _ (.tail _ (.head _))) | exact .tail _ (.tail _ (.tail _ (.tail _ (.head _)))) | exact .tail _ (.tail _ (.tail _ (.tail _ (.tail _ (.head _)))))) Tryd.isAgg3 rfl ?_); (try simp only [Act.put, List.setIfInBounds_toArray, List.set_cons_zero, List.set_cons_succ]))
                    | ((refine own_load1 (T := 5) HO rfl rfl rfl (by first | exact .head _ | exact .tail _ (.head _) | exact .tail _ (.tail _ (.head _)) | exact .tail _ (.tail _ (.tail _ (.head _))) | exact .tail _ (.tail _ (.tail _ (.tail _ (.head _)))) | exact .tail _ (.tail _ (.tail _ (.tail _ (.tail _ (.head _)))))) Tryd.isAgg5 rfl ?_); (try simp only [Act.put, List.setIfInBounds_toArray, List.set_cons_zero, List.set_cons_succ]))
                    | ((refine own_load1 (T := 9) HO rfl rfl rfl (by first | exact .head _ | exact .tail _ (.head _) | exact .tail _ (.tail _ (.head _)) | exact .tail _ (.tail _ (.tail _ (.head _))) | exact .tail _ (.tail _ (.tail _ (.tail _ (.head _)))) | exact .tail _ (.tail _ (.tail _ (.tail _ (.tail _ (.head _)))))) Tryd.isAgg9 rfl ?_); (try simp only [Act.put, List.setIfInBounds_toArray, List.set_cons_zero, List.set_cons_succ]))
                    | ((refine own_store (T := 26) HO rfl rfl rfl rfl (by first | exact .here | exact .there (.here) | exact .there (.there (.here)) | exact .there (.there (.there (.here))) | exact .there (.there (.there (.there (.here)))) | exact .there (.there (.there (.there (.there (.here)))))) Tryd.sizeOf26 (by repeat constructor) rfl ?_); clear HO; intro wN HO; (try simp only [Act.put, List.setIfInBounds_toArray, List.set_cons_zero, List.set_cons_succ]))
                    | ((refine own_store (T := 3) HO rfl rfl rfl rfl (by first | exact .here | exact .there (.here) | exact .there (.there (.here)) | exact .there (.there (.there (.here))) | exact .there (.there (.there (.there (.here)))) | exact .there (.there (.there (.there (.there (.here)))))) Tryd.sizeOf3 (by repeat constructor) rfl ?_); clear HO; intro wN HO; (try simp only [Act.put, List.setIfInBounds_toArray, List.set_cons_zero, List.set_cons_succ]))
                    | ((refine own_store (T := 5) HO rfl rfl rfl rfl (by first | exact .here | exact .there (.here) | exact .there (.there (.here)) | exact .there (.there (.there (.here))) | exact .there (.there (.there (.there (.here)))) | exact .there (.there (.there (.there (.there (.here)))))) Tryd.sizeOf5 (by repeat constructor) rfl ?_); clear HO; intro wN HO; (try simp only [Act.put, List.setIfInBounds_toArray, List.set_cons_zero, List.set_cons_succ]))
                    | ((refine own_store (T := 9) HO rfl rfl rfl rfl (by first | exact .here | exact .there (.here) | exact .there (.there (.here)) | exact .there (.there (.there (.here))) | exact .there (.there (.there (.there (.here)))) | exact .there (.there (.there (.there (.there (.here)))))) Tryd.sizeOf9 (by repeat constructor) rfl ?_); clear HO; intro wN HO; (try simp only [Act.put, List.setIfInBounds_toArray, List.set_cons_zero, List.set_cons_succ])))))
              go_ret
              exact ⟨retB HR.out.symm, HO.below⟩
            case pos =>
              have g4 : decide (d0 = d1) = true := decide_eq_true h4
              have k4 : (d0.toList == d1.toList) = true := by rw [h4]; exact beq_self_eq_true _
              have HE2 := HE
              rw [HL.out] at HE2
              have HR : Hid (t = true) := Lib.hid (by rw [← HT.out]; exact decide_eq_true ⟨hl, h0, h1, h2, h3, h4⟩)
              clear HL hl h0 h1 h2 h3 h4
              clear HE HT
              go_enter Tryd.func35, Tryd.ntmps35
              go_wp2_with (first
                    | (go_at_call 51; refine (HE2.out _ HO.below).mono ?_; rintro eN wN ⟨rfl, hbN⟩; have HON := HO.call hbN; clear HO hbN; have HO := HON; clear HON)
                    | ((with_reducible refine gate ?_); (first
                    | ((refine own_box HO rfl rfl rfl ?_); clear HO; intro gN wN hgN HO; (simp only [List.nil_append, List.cons_append] at HO); (try simp only [Act.put, List.setIfInBounds_toArray, List.set_cons_zero, List.set_cons_succ]))
                    | ((refine own_load1 (T := 26) HO rfl rfl rfl (by first | exact .head _ | exact .tail _ (.head _) | exact .tail _ (.tail _ (.head _)) | exact .tail _ (.tail _ (.tail _ (.head _))) | exact .tail _ (.tail _ (.tail _ (.tail _ (.head _)))) | exact .tail _ (.tail _ (.tail _ (.tail _ (.tail _ (.head _)))))) Tryd.isAgg26 rfl ?_); (try simp only [Act.put, List.setIfInBounds_toArray, List.set_cons_zero, List.set_cons_succ]))
                    | ((refine own_load1 (T := 3) HO rfl rfl rfl (by first | exact .head _ | exact .tail _ (.head _) | exact .tail _ (.tail _ (.head _)) | exact .tail _ (.tail _ (.tail _ (.head _))) | exact .tail _ (.tail _ (.tail _ (.tail _ (.head _)))) | exact .tail _ (.tail _ (.tail _ (.tail _ (.tail _ (.head _)))))) Tryd.isAgg3 rfl ?_); (try simp only [Act.put, List.setIfInBounds_toArray, List.set_cons_zero, List.set_cons_succ]))
                    | ((refine own_load1 (T := 5) HO rfl rfl rfl (by first | exact .head _ | exact .tail _ (.head _) | exact .tail _ (.tail _ (.head _)) | exact .tail _ (.tail _ (.tail _ (.head _))) | exact .tail _ (.tail _ (.tail _ (.tail _ (.head _)))) | exact .tail _ (.tail _ (.tail _ (.tail _ (.tail _ (.head _)))))) Tryd.isAgg5 rfl ?_); (try simp only [Act.put, List.setIfInBounds_toArray, List.set_cons_zero, List.set_cons_succ]))
                    | ((refine own_load1 (T := 9) HO rfl rfl rfl (by first | exact .head _ | exact .tail _ (.head _) | exact .tail _ (.tail _ (.head _)) | exact .tail _ (.tail _ (.tail _ (.head _))) | exact .tail _ (.tail _ (.tail _ (.tail _ (.head _)))) | exact .tail _ (.tail _ (.tail _ (.tail _ (.tail _ (.head _)))))) Tryd.isAgg9 rfl ?_); (try simp only [Act.put, List.setIfInBounds_toArray, List.set_cons_zero, List.set_cons_succ]))
                    | ((refine own_store (T := 26) HO rfl rfl rfl rfl (by first | exact .here | exact .there (.here) | exact .there (.there (.here)) | exact .there (.there (.there (.here))) | exact .there (.there (.there (.there (.here)))) | exact .there (.there (.there (.there (.there (.here)))))) Tryd.sizeOf26 (by repeat constructor) rfl ?_); clear HO; intro wN HO; (try simp only [Act.put, List.setIfInBounds_toArray, List.set_cons_zero, List.set_cons_succ]))
                    | ((refine own_store (T := 3) HO rfl rfl rfl rfl (by first | exact .here | exact .there (.here) | exact .there (.there (.here)) | exact .there (.there (.there (.here))) | exact .there (.there (.there (.there (.here)))) | exact .there (.there (.there (.there (.there (.here)))))) Tryd.sizeOf3 (by repeat constructor) rfl ?_); clear HO; intro wN HO; (try simp only [Act.put, List.setIfInBounds_toArray, List.set_cons_zero, List.set_cons_succ]))
                    | ((refine own_store (T := 5) HO rfl rfl rfl rfl (by first | exact .here | exact .there (.here) | exact .there (.there (.here)) | exact .there (.there (.there (.here))) | exact .there (.there (.there (.there (.here)))) | exact .there (.there (.there (.there (.there (.here)))))) Tryd.sizeOf5 (by repeat constructor) rfl ?_); clear HO; intro wN HO; (try simp only [Act.put, List.setIfInBounds_toArray, List.set_cons_zero, List.set_cons_succ]))
                    | ((refine own_store (T := 9) HO rfl rfl rfl rfl (by first | exact .here | exact .there (.here) | exact .there (.there (.here)) | exact .there (.there (.there (.here))) | exact .there (.there (.there (.there (.here)))) | exact .there (.there (.there (.there (.there (.here)))))) Tryd.sizeOf9 (by repeat constructor) rfl ?_); clear HO; intro wN HO; (try simp only [Act.put, List.setIfInBounds_toArray, List.set_cons_zero, List.set_cons_succ])))))
              go_ret
              exact ⟨retB HR.out.symm, HO.below⟩
  · have HL := Lib.hid (decide_eq_false hl)
    have HE2 := HE
    rw [HL.out] at HE2
    have HR : Hid (t = false) := Lib.hid (by rw [← HT.out]; exact decide_eq_false fun e => hl e.1)
    clear HL hl
    clear HE HT
    go_enter Tryd.func35, Tryd.ntmps35
    go_wp2_with (first
          | (go_at_call 51; refine (HE2.out _ HO.below).mono ?_; rintro eN wN ⟨rfl, hbN⟩; have HON := HO.call hbN; clear HO hbN; have HO := HON; clear HON)
          | ((with_reducible refine gate ?_); (first
          | ((refine own_box HO rfl rfl rfl ?_); clear HO; intro gN wN hgN HO; (simp only [List.nil_append, List.cons_append] at HO); (try simp only [Act.put, List.setIfInBounds_toArray, List.set_cons_zero, List.set_cons_succ]))
          | ((refine own_load1 (T := 26) HO rfl rfl rfl (by first | exact .head _ | exact .tail _ (.head _) | exact .tail _ (.tail _ (.head _)) | exact .tail _ (.tail _ (.tail _ (.head _))) | exact .tail _ (.tail _ (.tail _ (.tail _ (.head _)))) | exact .tail _ (.tail _ (.tail _ (.tail _ (.tail _ (.head _)))))) Tryd.isAgg26 rfl ?_); (try simp only [Act.put, List.setIfInBounds_toArray, List.set_cons_zero, List.set_cons_succ]))
          | ((refine own_load1 (T := 3) HO rfl rfl rfl (by first | exact .head _ | exact .tail _ (.head _) | exact .tail _ (.tail _ (.head _)) | exact .tail _ (.tail _ (.tail _ (.head _))) | exact .tail _ (.tail _ (.tail _ (.tail _ (.head _)))) | exact .tail _ (.tail _ (.tail _ (.tail _ (.tail _ (.head _)))))) Tryd.isAgg3 rfl ?_); (try simp only [Act.put, List.setIfInBounds_toArray, List.set_cons_zero, List.set_cons_succ]))
          | ((refine own_load1 (T := 5) HO rfl rfl rfl (by first | exact .head _ | exact .tail _ (.head _) | exact .tail _ (.tail _ (.head _)) | exact .tail _ (.tail _ (.tail _ (.head _))) | exact .tail _ (.tail _ (.tail _ (.tail _ (.head _)))) | exact .tail _ (.tail _ (.tail _ (.tail _ (.tail _ (.head _)))))) Tryd.isAgg5 rfl ?_); (try simp only [Act.put, List.setIfInBounds_toArray, List.set_cons_zero, List.set_cons_succ]))
          | ((refine own_load1 (T := 9) HO rfl rfl rfl (by first | exact .head _ | exact .tail _ (.head _) | exact .tail _ (.tail _ (.head _)) | exact .tail _ (.tail _ (.tail _ (.head _))) | exact .tail _ (.tail _ (.tail _ (.tail _ (.head _)))) | exact .tail _ (.tail _ (.tail _ (.tail _ (.tail _ (.head _)))))) Tryd.isAgg9 rfl ?_); (try simp only [Act.put, List.setIfInBounds_toArray, List.set_cons_zero, List.set_cons_succ]))
          | ((refine own_store (T := 26) HO rfl rfl rfl rfl (by first | exact .here | exact .there (.here) | exact .there (.there (.here)) | exact .there (.there (.there (.here))) | exact .there (.there (.there (.there (.here)))) | exact .there (.there (.there (.there (.there (.here)))))) Tryd.sizeOf26 (by repeat constructor) rfl ?_); clear HO; intro wN HO; (try simp only [Act.put, List.setIfInBounds_toArray, List.set_cons_zero, List.set_cons_succ]))
          | ((refine own_store (T := 3) HO rfl rfl rfl rfl (by first | exact .here | exact .there (.here) | exact .there (.there (.here)) | exact .there (.there (.there (.here))) | exact .there (.there (.there (.there (.here)))) | exact .there (.there (.there (.there (.there (.here)))))) Tryd.sizeOf3 (by repeat constructor) rfl ?_); clear HO; intro wN HO; (try simp only [Act.put, List.setIfInBounds_toArray, List.set_cons_zero, List.set_cons_succ]))
          | ((refine own_store (T := 5) HO rfl rfl rfl rfl (by first | exact .here | exact .there (.here) | exact .there (.there (.here)) | exact .there (.there (.there (.here))) | exact .there (.there (.there (.there (.here)))) | exact .there (.there (.there (.there (.there (.here)))))) Tryd.sizeOf5 (by repeat constructor) rfl ?_); clear HO; intro wN HO; (try simp only [Act.put, List.setIfInBounds_toArray, List.set_cons_zero, List.set_cons_succ]))
          | ((refine own_store (T := 9) HO rfl rfl rfl rfl (by first | exact .here | exact .there (.here) | exact .there (.there (.here)) | exact .there (.there (.there (.here))) | exact .there (.there (.there (.there (.here)))) | exact .there (.there (.there (.there (.there (.here)))))) Tryd.sizeOf9 (by repeat constructor) rfl ?_); clear HO; intro wN HO; (try simp only [Act.put, List.setIfInBounds_toArray, List.set_cons_zero, List.set_cons_succ])))))
    go_ret
    exact ⟨retB HR.out.symm, HO.below⟩
end Go.Proofs.YtclnanhgcnopdaaDoor
end
section
namespace Go.Proofs.YtclnanhgcnopdaaDoorW.PrintWords
open Go.RowKit
namespace Kd
structure Heap {α : Type} (d : Kd α) : Prop where
  K : ∀ {w w1 : World} {x : α} {cs : List Value}, (∀ k, k < w.heap.size → w1.heap[k]? = w.heap[k]?) → d.K w x cs → d.K w1 x cs
theorem cell_heap {w w1 : World} (hb : ∀ k, k < w.heap.size → w1.heap[k]? = w.heap[k]?) {a : Addr} {v : Value} (h : w.cell? a = some v) : w1.cell? a = some v := by
  have := hb a.block (World.block_lt_of_cell? w a h)
  simpa [World.cell?, this] using h
theorem Heap.C {α : Type} {d : Kd α} (hd : Heap d) {w w1 : World} {A : Option Addr} {n : Nat} {xs : List α} (hb : ∀ k, k < w.heap.size → w1.heap[k]? = w.heap[k]?) (h : d.C w A n xs) : d.C w1 A n xs :=
  ⟨h.1, h.2.1, fun hn => by
    obtain ⟨ad, e, hc⟩ := h.2.2 hn
    refine ⟨ad, e, fun j p hj => ?_⟩
    obtain ⟨c, hs, hr, hcell⟩ := hc j p hj
    exact ⟨c, hs, hd.K hb hr, fun i u hu => cell_heap hb (hcell i u hu)⟩⟩
end Kd
end Go.Proofs.YtclnanhgcnopdaaDoorW.PrintWords
end
section
namespace Go.Proofs.YtclnanhgcnopdaaDoorW.PrintWords
open Go.RowKit
def Kept (w W : World) (S : Nat → Prop) : Prop := w.heap.size ≤ W.heap.size ∧ ∀ i, i < w.heap.size → ¬ S i → W.heap[i]? = w.heap[i]?
section
variable {w W W2 : World} {S S2 S' : Nat → Prop}
theorem Kept.refl (w : World) (S : Nat → Prop) : Kept w w S := ⟨Nat.le_refl _, fun _ _ _ => rfl⟩
theorem Kept.of_below (h : Below w.heap.size w W) (S : Nat → Prop) : Kept w W S := ⟨h.size, fun i hi _ => h.block i hi⟩
theorem Kept.mono (h : Kept w W S) (hs : ∀ k, S k → S' k) : Kept w W S' := ⟨h.1, fun i hi hn => h.2 i hi (fun hk => hn (hs i hk))⟩
theorem Kept.then_ (h : Kept w W S) (k : Kept W W2 S2) (hs : ∀ k, S2 k → S k ∨ w.heap.size ≤ k) : Kept w W2 S :=
  ⟨Nat.le_trans h.1 k.1, fun i hi hn => (k.2 i (Nat.lt_of_lt_of_le hi h.1) (fun h2 => (hs i h2).elim hn (fun h3 => by omega))).trans (h.2 i hi hn)⟩
theorem Kept.below (h : Kept w W S) (hb : Below W.heap.size W W2) : Kept w W2 S := h.then_ (Kept.of_below hb (fun _ => False)) (fun _ hk => hk.elim)
theorem Kept.alloc (h : Kept w W S) (o : Obj) : Kept w (W.alloc o) S := h.below (below_alloc (Below.refl _ _) o)
theorem Kept.drew (h : Kept w W S) : Kept w W.drew S := h
theorem Kept.drewN (h : Kept w W S) (m : Nat) : Kept w (W.drewN m) S := h
theorem Kept.setCell (h : Kept w W S) {p : Addr} (hp : S p.block ∨ w.heap.size ≤ p.block) (u : Value) : Kept w (W.setCell p u) S :=
  h.then_ (S2 := fun k => k = p.block) ⟨by simp [World.setCell], fun i _ hn => Below.heap_setCell W p u i hn⟩ (fun k hk => by rw [hk]; exact hp)
theorem Kept.keep {g : Nat} (h : KeepBut w W g none) (k : Kept W W2 S2) (hs : ∀ k, S2 k → w.heap.size ≤ k) : KeepBut w W2 g none :=
  ⟨Nat.le_trans h.1 k.1, fun i hi hg hr => (k.2 i (Nat.lt_of_lt_of_le hi h.1) (fun h2 => by have := hs i h2; omega)).trans (h.2 i hi hg hr)⟩
end
end Go.Proofs.YtclnanhgcnopdaaDoorW.PrintWords
end
section
namespace Go.Proofs.YtclnanhgcnopdaaDoorW.PrintWords
open Go.RowKit
def Foot (P : World → Prop) (W : World) (ok : Nat → Prop) : Prop := ∀ W' : World, (∀ k, ok k → k < W.heap.size → W'.heap[k]? = W.heap[k]?) → P W'
namespace Foot
variable {P Q : World → Prop} {W W1 : World} {ok ok' : Nat → Prop}
theorem mono (h : Foot P W ok) (hok : ∀ k, ok k → ok' k) : Foot P W ok' := fun W' hW => h W' (fun k hk hlt => hW k (hok k hk) hlt)
end Foot
namespace Kd
def F {α : Type} (d : Kd α) (W : World) (ok : Nat → Prop) (A : Option Addr) (n : Nat) (xs : List α) : Prop := Foot (fun W => d.C W A n xs) W ok
def FK {α : Type} (d : Kd α) (W : World) (ok : Nat → Prop) (x : α) (c : List Value) : Prop := Foot (fun W => d.K W x c) W ok
end Kd
end Go.Proofs.YtclnanhgcnopdaaDoorW.PrintWords
end
section
namespace Go.Proofs.YtclnanhgcnopdaaDoorW.PrintWords
open Go.RowKit
namespace Kd
section
variable {α : Type} {d : Kd α} {e base n cc g : Nat} {ok ok' okp S : Nat → Prop} {w w1 W W1 : World} {A : Option Addr} {u v v1 : Value} {xs : List α} {x : α} {c : List Value}
def N {α : Type} (d : Kd α) (e : Nat) (w : World) (base : Nat) (ok : Nat → Prop) (v : Value) (xs : List α) : Prop :=
  (∀ k, v.ownBlock = some k → ok k) ∧ ∃ rows : List (List Value), rows.length = xs.length ∧ (raw d.sz).R e w base (fun k => some k = v.ownBlock) v rows ∧ ∀ (j : Nat) (x : α) (c : List Value), xs[j]? = some x → rows[j]? = some c → FK d w (fun k => ok k ∧ some k ≠ v.ownBlock) x c
end
end Kd
end Go.Proofs.YtclnanhgcnopdaaDoorW.PrintWords
end
section
namespace Go.Proofs.YtclnanhgcnopdaaDoorW.PrintWords
theorem Reps.front {α : Type} {R : α → List Value → Prop} {size : Nat} {ps : List α} {cs c all : List Value} {p : α} (hp : R p c) (hc : c.length = size) (h : Reps R size ps cs) (ha : c ++ cs = all) : Reps R size (p :: ps) all := by
  subst ha
  refine ⟨by rw [List.length_append, hc, h.1, List.length_cons, Nat.succ_mul, Nat.add_comm], fun j q hq => ?_⟩
  cases j with
  | zero =>
    simp only [List.getElem?_cons_zero, Option.some.injEq] at hq
    subst hq
    rw [Nat.zero_mul, List.drop_zero, List.take_append_of_le_length (by omega), List.take_of_length_le (by omega)]
    exact hp
  | succ j =>
    simp only [List.getElem?_cons_succ] at hq
    have h1 := h.2 j q hq
    rw [Nat.succ_mul, List.drop_append, List.drop_of_length_le (by rw [hc]; exact Nat.le_add_left _ _), List.nil_append, hc, Nat.add_sub_cancel]
    exact h1
theorem Reps.c2 {α : Type} {R : α → List Value → Prop} {ps : List α} {cs : List Value} {p : α} {va vb : Value} (hp : R p [va, vb]) (h : Reps R 2 ps cs) : Reps R 2 (p :: ps) (va :: vb :: cs) := Reps.front hp rfl h rfl
theorem Reps.c3 {α : Type} {R : α → List Value → Prop} {ps : List α} {cs : List Value} {p : α} {va vb vc : Value} (hp : R p [va, vb, vc]) (h : Reps R 3 ps cs) : Reps R 3 (p :: ps) (va :: vb :: vc :: cs) := Reps.front hp rfl h rfl
theorem Reps.c4 {α : Type} {R : α → List Value → Prop} {ps : List α} {cs : List Value} {p : α} {va vb vc vd : Value} (hp : R p [va, vb, vc, vd]) (h : Reps R 4 ps cs) : Reps R 4 (p :: ps) (va :: vb :: vc :: vd :: cs) := Reps.front hp rfl h rfl
theorem Reps.c5 {α : Type} {R : α → List Value → Prop} {ps : List α} {cs : List Value} {p : α} {va vb vc vd ve : Value} (hp : R p [va, vb, vc, vd, ve]) (h : Reps R 5 ps cs) : Reps R 5 (p :: ps) (va :: vb :: vc :: vd :: ve :: cs) := Reps.front hp rfl h rfl
theorem Reps.c6 {α : Type} {R : α → List Value → Prop} {ps : List α} {cs : List Value} {p : α} {va vb vc vd ve vf : Value} (hp : R p [va, vb, vc, vd, ve, vf]) (h : Reps R 6 ps cs) : Reps R 6 (p :: ps) (va :: vb :: vc :: vd :: ve :: vf :: cs) := Reps.front hp rfl h rfl
theorem Reps.c7 {α : Type} {R : α → List Value → Prop} {ps : List α} {cs : List Value} {p : α} {va vb vc vd ve vf vg : Value} (hp : R p [va, vb, vc, vd, ve, vf, vg]) (h : Reps R 7 ps cs) : Reps R 7 (p :: ps) (va :: vb :: vc :: vd :: ve :: vf :: vg :: cs) := Reps.front hp rfl h rfl
theorem Reps.c8 {α : Type} {R : α → List Value → Prop} {ps : List α} {cs : List Value} {p : α} {va vb vc vd ve vf vg vh : Value} (hp : R p [va, vb, vc, vd, ve, vf, vg, vh]) (h : Reps R 8 ps cs) : Reps R 8 (p :: ps) (va :: vb :: vc :: vd :: ve :: vf :: vg :: vh :: cs) := Reps.front hp rfl h rfl
theorem Reps.c9 {α : Type} {R : α → List Value → Prop} {ps : List α} {cs : List Value} {p : α} {va vb vc vd ve vf vg vh vi : Value} (hp : R p [va, vb, vc, vd, ve, vf, vg, vh, vi]) (h : Reps R 9 ps cs) : Reps R 9 (p :: ps) (va :: vb :: vc :: vd :: ve :: vf :: vg :: vh :: vi :: cs) := Reps.front hp rfl h rfl
theorem Reps.c10 {α : Type} {R : α → List Value → Prop} {ps : List α} {cs : List Value} {p : α} {va vb vc vd ve vf vg vh vi vj : Value} (hp : R p [va, vb, vc, vd, ve, vf, vg, vh, vi, vj]) (h : Reps R 10 ps cs) : Reps R 10 (p :: ps) (va :: vb :: vc :: vd :: ve :: vf :: vg :: vh :: vi :: vj :: cs) := Reps.front hp rfl h rfl
end Go.Proofs.YtclnanhgcnopdaaDoorW.PrintWords
end
section
namespace Go.Proofs.YtclnanhgcnopdaaDoorW.PrintLast
def up (b : Nat → Bool) (i : Nat) : Nat → Bool := fun j => if j = i then true else b j
section
variable {P : Program} {ops : Array Oper} {Q : Exit → Act → World → Prop} {md : Region.Mode} {T : Bool × List (List Nat × List Nat)} {B : List Nat} {O : List Nat} {b : Nat → Bool} {i j n : Nat}
def Closed (T : List (List Nat × List Nat)) (O : List Nat) (b : Nat → Bool) : Prop := ∀ d r, T[d]? = some r → O.contains d = true → b d = true → ∀ n ∈ r.1, O.contains n = true → b n = true
theorem put_comm {a : Act} {s t : Tmp} {u v : Value} (h : s ≠ t) : (a.put (some s) u).put (some t) v = (a.put (some t) v).put (some s) u := by
  simp only [Act.put]
  rw [Array.setIfInBounds_comm _ _ h]
end
end Go.Proofs.YtclnanhgcnopdaaDoorW.PrintLast
end
section
namespace Go.Proofs.YtclnanhgcnopdaaDoorW.PrintWords
open Go.RowKit
section
variable {P : Program} {ops : Array Oper} {rest : List Oper} {o : Oper} {a : Act} {Q : Exit → Act → World → Prop} {W : World}
theorem gate_guard (hw : Region.wanted o (yielded ops a.tmps) = true) (h : wpList P ops Q ({ o with guard := none } :: rest) a W) : wpList P ops Q (o :: rest) a W := by
  have h1 : Region.wanted { o with guard := none } (yielded ops a.tmps) = true := rfl
  unfold wpList at h ⊢
  rw [if_pos h1] at h
  rw [if_pos hw]
  exact h
end
end Go.Proofs.YtclnanhgcnopdaaDoorW.PrintWords
end
section
namespace Go.Proofs.YtclnanhgcnopdaaDoorW.PrintMore
open Go.RowKit Go.Proofs.YtclnanhgcnopdaaDoorW.PrintWords
open Go.Proofs.YtclnanhgcnopdaaDoorW.PrintWords.Kd
open Go.Proofs.YtclnanhgcnopdaaDoorW.PrintWords.Kd
theorem max2_int (k k' : IntKind) (x y : Int) : Builtin.max2 (.int k x) (.int k' y) = pure (.int k (if x < y then y else x)) := by simp only [Builtin.max2, gt_iff_lt]
theorem min2_int (k k' : IntKind) (x y : Int) : Builtin.min2 (.int k x) (.int k' y) = pure (.int k (if y < x then y else x)) := by simp only [Builtin.min2]
theorem max_two (ats : Array TypeId) (ty : TypeId) (a b : Value) : Builtin.max_ ats ty #[a, b] = (Builtin.max2 a b >>= fun s => pure s) := by simp only [Builtin.max_, List.foldlM_cons, List.foldlM_nil]
theorem min_two (ats : Array TypeId) (ty : TypeId) (a b : Value) : Builtin.min_ ats ty #[a, b] = (Builtin.min2 a b >>= fun s => pure s) := by simp only [Builtin.min_, List.foldlM_cons, List.foldlM_nil]
theorem max_three (ats : Array TypeId) (ty : TypeId) (a b c : Value) : Builtin.max_ ats ty #[a, b, c] = (Builtin.max2 a b >>= fun s => Builtin.max2 s c >>= fun s => pure s) := by simp only [Builtin.max_, List.foldlM_cons, List.foldlM_nil]
theorem min_three (ats : Array TypeId) (ty : TypeId) (a b c : Value) : Builtin.min_ ats ty #[a, b, c] = (Builtin.min2 a b >>= fun s => Builtin.min2 s c >>= fun s => pure s) := by simp only [Builtin.min_, List.foldlM_cons, List.foldlM_nil]
theorem max_four (ats : Array TypeId) (ty : TypeId) (a b c d : Value) : Builtin.max_ ats ty #[a, b, c, d] = (Builtin.max2 a b >>= fun s => Builtin.max2 s c >>= fun s => Builtin.max2 s d >>= fun s => pure s) := by simp only [Builtin.max_, List.foldlM_cons, List.foldlM_nil]
theorem min_four (ats : Array TypeId) (ty : TypeId) (a b c d : Value) : Builtin.min_ ats ty #[a, b, c, d] = (Builtin.min2 a b >>= fun s => Builtin.min2 s c >>= fun s => Builtin.min2 s d >>= fun s => pure s) := by simp only [Builtin.min_, List.foldlM_cons, List.foldlM_nil]
end Go.Proofs.YtclnanhgcnopdaaDoorW.PrintMore
open Go.RowKit
open Go.RowKit
end
section
namespace Go.Proofs.YtclnanhgcnopdaaDoor
set_option linter.unusedVariables false
set_option linter.unusedSimpArgs false
open Go.RowKit Kit
attribute [local irreducible] wpList Calls wpQuiet
set_option maxRecDepth 100000 in
set_option maxHeartbeats 3200000 in
theorem refHex_calls (p : Option Addr) (n c : Nat) (l : List UInt8) (w : World) (hl : l.length = n) (hm : n ≤ 1000000) (hr : Reads w p (l.map byV)) :
    Calls Tryd.prog 16 #[.slice p n c] w fun e w' => e = .returned (.string ⟨(hexL l).toArray⟩) ∧ Below w.heap.size w w' := by
  have HL := Lib.hid hl
  have HR := Lib.hid hr
  clear hl hr
  obtain ⟨i0, hi, hz0, hz1, hz2⟩ := info_parts info_u8
  go_enter Tryd.func16, Tryd.ntmps16
  go_wp2
  go_loopw [3, 4] (fun v i wr => ∃ k : Nat, k ≤ n ∧ i = .int .i64 k ∧ wr.ownsRow w.heap.size 5 1 v (2 * k) ((hexL (l.take k)).map byV) ∧ Below w.heap.size w wr) (fun _ i _ => n - (intOf i).toNat)
  case atStart => exact ⟨0, Nat.zero_le _, rfl, World.ownsRow_nil _ _ _ _, Below.refl _ w⟩
  case round =>
    obtain ⟨k, hk, rfl, hown, hbw⟩ := hrel
    by_cases hlt : k < n
    · obtain ⟨b, o, rfl, hcell0⟩ := HR.out.byte (k := k) (by rw [HL.out]; exact hlt)
      have hcell := (hbw.cell (World.block_lt_of_cell? w _ hcell0)).trans hcell0
      have hbB := World.block_lt_of_cell? w _ hcell0
      have HNE := Lib.hid (fun e => (absurd (hown.lt b (Eq.symm e)).1 (by simp at hbB; omega) : False))
      clear hcell0 hbB
      obtain ⟨x, hx⟩ : ∃ x : UInt8, x = l[k]?.getD 0 := ⟨_, rfl⟩
      rw [← hx] at hcell
      have HX := Lib.hid hx
      clear hx
      obtain ⟨u, hu⟩ : ∃ u : Nat, u = x.toNat / 16 := ⟨_, rfl⟩
      obtain ⟨v, hv⟩ : ∃ v : Nat, v = x.toNat % 16 := ⟨_, rfl⟩
      have hlt256 := x.toNat_lt
      have e1 : ((x.toNat : Int) / 16) = (u : Int) := by omega
      have e2 : ((x.toNat : Int) % 16) = (v : Int) := by omega
      have hx0 : (0 : Int) ≤ (x.toNat : Int) := Int.natCast_nonneg _
      have hu1 : u < 16 := by omega
      have hv1 : v < 16 := by omega
      have e7 : ((x.toNat : Int).tmod 16) = (v : Int) := by rw [Int.tmod_eq_emod_of_nonneg (Int.natCast_nonneg _)]; exact e2
      have e3 : IntKind.u8.wrap (u : Int) = u := IntWalk.u8_in _ (by omega)
      have e4 : IntKind.u8.wrap (v : Int) = v := IntWalk.u8_in _ (by omega)
      have e5 : IntKind.i64.wrap (u : Int) = u := IntWalk.i64_in _ (by omega)
      have e6 : IntKind.i64.wrap (v : Int) = v := IntWalk.i64_in _ (by omega)
      have HU := Lib.hid hu
      have HV := Lib.hid hv
      have HF1 := Lib.hid (figure16_calls u hu1)
      have HF2 := Lib.hid (figure16_calls v hv1)
      clear hu hv
      have hB := hbw.size
      have h63 : 2 * k + 2 ≤ maxLen := by unfold maxLen; omega
      have hby : (2 * k + 2) * 1 ≤ 140737488355328 := by omega
      have hone : ∀ z ∈ [byV (figV u), byV (figV v)], z.oneCell' = true := by simp [byV, Value.oneCell']
      have hbase : ∀ o : Obj, w.heap.size ≤ (wr.alloc o).drew.heap.size := by intro o; simp; omega
      have HH := Lib.hid (And.intro h63 (And.intro hby (And.intro hone hbase)))
      have hi0 : (0 : Int) ≤ (k : Int) := Int.natCast_nonneg _
      have hi1 : (k : Int) < (n : Int) := by omega
      clear h63 hby hone hbase
      go_wp2
      go_region_held3 (fun w' => w'.cell? ⟨b, o + k, none⟩ = some (.int .u8 (x.toNat : Int))) (first | go_keep | exact hgrow.cell ‹_› HNE.out) (first | (go_at_call 34; refine (HF1.out _).mono ?_; rintro e w' ⟨rfl, rfl⟩) | (go_at_call 34; refine (HF2.out _).mono ?_; rintro e w' ⟨rfl, rfl⟩) | (refine step_append_lies _ (by rfl) _ _ 33 (by rfl) w.heap.size 5 i0 (.int .u8 0) 1 1 Tryd.underlying33 hi hz0 hz1 hz2 rfl Nat.one_pos _ (2 * k) ((hexL (l.take k)).map byV) (by rfl) ((hown.alloc _).drew) ⟨wr.heap.size, 0, none⟩ 2 2 [byV (figV u), byV (figV v)] (by rfl) (by rfl) (World.news_of_block (cs := #[byV (figV u), byV (figV v)]) (heap_alloc_new wr _)) HH.out.2.2.1 Nat.two_pos HH.out.1 HH.out.2.1 (HH.out.2.2.2 _) (wr.heap.size + 1) (sizeAlloc _ _) ?_; intro gg cap w1 hown1 hgrow hat hlt1) | fail)
      all_goals
        have R1 : w1.ownsRow w.heap.size 5 1 (.slice (some ⟨gg, 0, none⟩) (2 * k + 2) cap) (2 * (k + 1)) ((hexL (l.take (k + 1))).map byV) := by
          rw [hexL_step l (by rw [HL.out]; exact hlt), ← HX.out, ← HU.out, ← HV.out, List.map_append]
          exact hown1
        have R2 : Below w.heap.size w w1 := ((hbw.alloc hB _).drew).grown hgrow (by rw [sizeAlloc]; omega) (fun k hk => (hown.lt k hk).1)
        clear hown1 hgrow hat hlt1 hown HH
        go_wp2
        go_roundw
        case rel => exact ⟨k + 1, by omega, by go_num, R1, R2⟩
        case measure => simp [intOf]; omega
    · have hkn : k = n := by omega
      subst hkn
      obtain ⟨p', c', hv, hr', _, _⟩ := hown.reads
      subst hv
      have hcv := run_str_of (P := Tryd.prog) (src := 33) (dst := 9) Tryd.underlying33 Tryd.underlying5 Tryd.underlying9 (c := c') hr' (n := 2 * k) (by rw [hexL_length, List.length_take, HL.out]; omega)
      rw [List.take_of_length_le (by rw [HL.out]; exact Nat.le_refl _)] at hcv
      clear hown hr'
      go_wp2
      go_ret
      exact ⟨rfl, hbw⟩
end Go.Proofs.YtclnanhgcnopdaaDoor
end
section
namespace Go.Proofs.YtclnanhgcnopdaaDoor.G
open Go.RowKit Go.Proofs.YtclnanhgcnopdaaDoorW.PrintWords Go.Proofs.YtclnanhgcnopdaaDoorW.PrintLast Go.Proofs.YtclnanhgcnopdaaDoorW.PrintMore
attribute [local go_sem] max2_int min2_int max_two min_two max_three min_three max_four min_four
set_option linter.unusedVariables false
set_option linter.unusedSimpArgs false
def errW : Option Int → Value
  | none => .nilIface
  | some c => .iface 0 (.int .i64 c)
theorem errW_none : errW none = .nilIface := rfl
theorem errW_some (c : Int) : errW (some c) = .iface 0 (.int .i64 c) := rfl
end Go.Proofs.YtclnanhgcnopdaaDoor.G
end
section
namespace Go.Proofs.YtclnanhgcnopdaaDoor.G
open Go.RowKit Go.Proofs.YtclnanhgcnopdaaDoorW.PrintWords Go.Proofs.YtclnanhgcnopdaaDoorW.PrintLast Go.Proofs.YtclnanhgcnopdaaDoorW.PrintMore
attribute [local go_sem] max2_int min2_int max_two min_two max_three min_three max_four min_four
set_option linter.unusedVariables false
set_option linter.unusedSimpArgs false
def strings_ContainsRune.f (a0 : ByteArray) (a1 : Int) : Option (Bool) := if 0 ≤ a1 ∧ a1 < 128 then some (decide (0 ≤ Lib.indexByte a0.data.toList a1.toNat.toUInt8)) else none
theorem strings_ContainsRune.calls (a0 : ByteArray) (a1 : Int) (r : Bool) (w : World) (h : strings_ContainsRune.f a0 a1 = some r) :
    Calls Tryd.prog 62 #[.string a0, .int .i32 a1] w fun e w' => e = .returned (.bool r) ∧ Below w.heap.size w w' := by
  unfold strings_ContainsRune.f at h
  by_cases hb : 0 ≤ a1 ∧ a1 < 128
  · rw [if_pos hb] at h
    obtain rfl := Option.some.inj h
    exact (Tryd.strings_ContainsRune_ascii a0 a1 w hb.1 hb.2).mono fun e w' ⟨h1, h2⟩ => ⟨h1, by rw [h2]; exact Below.refl _ _⟩
  · rw [if_neg hb] at h; cases h
end Go.Proofs.YtclnanhgcnopdaaDoor.G
end
section
namespace Go.Proofs.YtclnanhgcnopdaaDoor.G
open Go.RowKit Go.Proofs.YtclnanhgcnopdaaDoorW.PrintWords Go.Proofs.YtclnanhgcnopdaaDoorW.PrintLast Go.Proofs.YtclnanhgcnopdaaDoorW.PrintMore
attribute [local go_sem] max2_int min2_int max_two min_two max_three min_three max_four min_four
set_option linter.unusedVariables false
set_option linter.unusedSimpArgs false
def wire_between.f (a0 : ByteArray) (a1 : Int) (a2 : Int) : Option (Bool) := if 0 ≤ a1 ∧ a1 < 128 ∧ 0 ≤ a2 ∧ a2 < 128 then some (btwL a1.toNat a2.toNat a0.data.toList) else none
theorem wire_between.calls (a0 : ByteArray) (a1 : Int) (a2 : Int) (r : Bool) (w : World) (h : wire_between.f a0 a1 a2 = some r) :
    Calls Tryd.prog 44 #[.string a0, .int .u8 a1, .int .u8 a2] w fun e w' => e = .returned (.bool r) ∧ Below w.heap.size w w' := by
  unfold wire_between.f at h
  by_cases hb : 0 ≤ a1 ∧ a1 < 128 ∧ 0 ≤ a2 ∧ a2 < 128
  · rw [if_pos hb] at h
    obtain rfl := Option.some.inj h
    have h1 := between_calls a0 a1.toNat a2.toNat (by omega) (by omega) w
    rw [Int.toNat_of_nonneg hb.1, Int.toNat_of_nonneg hb.2.2.1] at h1
    exact h1
  · rw [if_neg hb] at h; cases h
end Go.Proofs.YtclnanhgcnopdaaDoor.G
end
section
namespace Go.Proofs.YtclnanhgcnopdaaDoor.G
open Go.RowKit Go.Proofs.YtclnanhgcnopdaaDoorW.PrintWords Go.Proofs.YtclnanhgcnopdaaDoorW.PrintLast Go.Proofs.YtclnanhgcnopdaaDoorW.PrintMore
attribute [local go_sem] max2_int min2_int max_two min_two max_three min_three max_four min_four
set_option linter.unusedVariables false
set_option linter.unusedSimpArgs false
def wire_listed.f (l0 : List (List Int)) : Option (Bool) := some (listedB l0)
theorem wire_listed.calls (A0 : Option Addr) (c0 : Nat) (l0 : List (List Int)) (r : Bool) (w : World) (hr0 : Kd.C (Kd.slice 3 (Kd.int .i64)) w A0 l0.length l0) (hc0 : l0.length ≤ c0) (h : wire_listed.f l0 = some r) :
    Calls Tryd.prog 45 #[.slice A0 l0.length c0] w fun e w' => e = .returned (.bool r) ∧ Below w.heap.size w w' := by
  obtain rfl := Option.some.inj h
  exact listed_calls A0 c0 l0 w hr0
end Go.Proofs.YtclnanhgcnopdaaDoor.G
end
