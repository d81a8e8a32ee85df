/- M: texts run together by shake.py: Shelf WWords KitB KitC KitD KitX KitM KitN WShare PMo RpA RpL KitW SkA MoO MoB MoC MoD RpD Greporta PuRa RpW Gstacka GgreportFlags GgreportMode PuRb RpV. -/
import Derived.ArgAppend
import Derived.Below
import Derived.BigQuiet
import Derived.ChangeOld
import Derived.ChangeSlices
import Derived.Deep.AppendLies
import Derived.Deep.CutBlock
import Derived.Deep.DeepCutAuto
import Derived.Deep.Draws
import Derived.Deep.LoopGhost
import Derived.Deep.Matrix
import Derived.Deep.OwnRows
import Derived.Deep.Quiet
import Derived.Deep.QuietTactic
import Derived.Deep.RegionHeld3
import Derived.Ground.Names2Prog
import Derived.Ground.SlgnProg
import Derived.KernelRfl
import Derived.Laws.AppendOwn
import Derived.Laws.AppendOwnNone
import Derived.Laws.Bits128
import Derived.Laws.BitsLemmas
import Derived.Laws.BytesArg
import Derived.Laws.Concat
import Derived.Laws.CopyRow
import Derived.Laws.IdiomCopy
import Derived.Laws.IdiomStrings
import Derived.Laws.MakeOwn
import Derived.Laws.OwnMore
import Derived.Laws.Rows
import Derived.Laws.Slices
import Derived.Laws.StructEq
import Derived.Laws.Tables
import Derived.Lib.AppendIntMem
import Derived.Lib.AppendStr
import Derived.Lib.ConvBytes
import Derived.Lib.Hide
import Derived.Lib.ItoaLen
import Derived.Lib.ItoaNum
import Derived.Lib.Join
import Derived.Lib.LaidTab
import Derived.Lib.Strings
import Derived.MapKept
import Derived.Maps.AppendAt
import Derived.OpenShut
import Derived.Orders
import Derived.OrdersHeld
import Derived.Outline
import Derived.OwnWalk
import Derived.ProofKit
import Derived.RowKit
import Derived.RowKit3
import Derived.Shelf.LaysM
import Derived.Shelf.Slices.Clone
import Derived.Shelf.SlicesE.Clone
import Derived.Shelf.Strconv.Itoa0
import Derived.Shelf.Strconv.Itoa1
import Derived.Shelf.Strconv.Itoa2
import Derived.Shelf.Strconv.Itoa3
import Derived.Shelf.Strings.Builder1
import Derived.Shelf.Strings.Builder2
import Derived.Shelf.Strings.Builder2Cap
import Derived.Shelf.Strings.BuilderCap
import Derived.Shelf.Strings.BuilderF
import Derived.Shelf.Strings.BuilderK
import Derived.Shelf.Strings.OnBuilder
import Derived.ShutString
import Derived.SizedLaws
import Derived.Still
import Derived.Tactics
import Derived.Test.YtopcleljecdkkaaDoorProg
import Derived.WalkKit
import Derived.WalkLawsBesides
import Derived.WalkSpells
import Derived.WideLaws
import Derived.Test.YtopcleljecdkkaaDoorZM1
import Derived.Test.YtopcleljecdkkaaDoorZM2
import Derived.Test.YtopcleljecdkkaaDoorZM3
import Derived.Test.YtopcleljecdkkaaDoorZM4
import Derived.Test.YtopcleljecdkkaaDoorZM5
import Derived.Test.YtopcleljecdkkaaDoorZM6
section
namespace Go.Proofs
open Go.Shelf
def Tryd.laysNm215_ren : Go.Shelf.Ren := ⟨fun | 15 => 67 | n => n, fun | 22 => 52 | 3 => 3 | 4 => 4 | n => n, fun | n => n⟩
theorem Tryd.laysNm215 : Go.Proofs.Lays2.n15 Tryd.prog Tryd.laysNm215_ren := {
  mixed := by kernel_rfl
  f15 := Tryd.func67.trans (congrArg some (by kernel_rfl))
  t3 := Tryd.underlying3
  a3 := Tryd.isAgg3
  z3 := Tryd.sizeOf3
  v3 := Tryd.zeroValue3
  t4 := Tryd.underlying4
  a4 := Tryd.isAgg4
  z4 := Tryd.sizeOf4
  v4 := Tryd.zeroValue4
  t22 := Tryd.underlying52
  a22 := Tryd.isAgg52
  z22 := Tryd.sizeOf52
  v22 := Tryd.zeroValue52
  i3 := by kernel_rfl }
open Go.RowKit Go.Lib in
theorem Tryd.slices_Clone_int (b off n c : Nat) (zs : List Int) (w : World) (hz : n ≤ zs.length) (hbig : n * 8 ≤ 140737488355328) (hc : ∀ j, j < zs.length → w.cell? ⟨b, off + j, none⟩ = some (.int .i64 (zs.getD j 0))) :
    Calls Tryd.prog 67 #[.slice (some ⟨b, off, none⟩) n c] w fun e w' => ∃ v', e = .returned v' ∧ w'.ownsRow w.heap.size 3 1 v' n ((zs.take n).map (Value.int .i64)) ∧ v' ≠ .slice none 0 0 ∧ Below w.heap.size w w' := Any.slices_Clone_int Tryd.laysNm215 b off n c zs w hz hbig hc
open Go.RowKit Go.Lib in
theorem Tryd.slices_Clone_int_nil (n c : Nat) (w : World) :
    Calls Tryd.prog 67 #[.slice none n c] w fun e w' => e = .returned (.slice none 0 0) ∧ w' = w := Any.slices_Clone_int_nil Tryd.laysNm215 n c w
open Go.RowKit Go.Lib in
theorem Tryd.slices_Clone_int_zero (a : Addr) (c : Nat) (w : World) :
    Calls Tryd.prog 67 #[.slice (some a) 0 c] w fun e w' => ∃ v', e = .returned v' ∧ w'.ownsRow w.heap.size 3 1 v' 0 [] ∧ v' ≠ .slice none 0 0 ∧ Below w.heap.size w w' := Any.slices_Clone_int_zero Tryd.laysNm215 a c w
end Go.Proofs
end
section
set_option linter.unusedVariables false
set_option linter.unusedSimpArgs false
namespace Go.Proofs.YtopcleljecdkkaaDoorW.PrintWords
open Go.RowKit
theorem Ev.now {α : Type} (r : α) : Ev (fun _ => some r) r := ⟨0, fun _ _ => rfl⟩
section
variable {α : Type} {R R' : α → List Value → Prop} {e : TypeId} {size : Nat} {w w1 : World} {base : Nat} {v : Value} {ps : List α}
theorem OwnRow.lower (h : OwnRow R e size w base v ps) {base' : Nat} (hb : base' ≤ base) : OwnRow R e size w base' v ps := by
  obtain ⟨inner, ho, hr⟩ := h
  exact ⟨inner, own_weaken ho hb, hr⟩
end
namespace Kd
theorem C_of_reads {α : Type} {enc : α → Value} {d : α} {h1 : ∀ x, (enc x).oneCell' = true} {w : World} {A : Option Addr} {n : Nat} {xs : List α} (h : ReadsOf enc d w A n xs) : (scalar enc h1).C w A n xs := by
  refine ⟨h.1, h.2.1, fun hn => ?_⟩
  obtain ⟨ad, e, hc⟩ := h.2.2 hn
  refine ⟨ad, e, fun j p hj => ⟨[enc p], rfl, rfl, fun i u hu => ?_⟩⟩
  obtain ⟨hl, hp⟩ := List.getElem?_eq_some_iff.1 hj
  have h2 := hc j (by have := h.1; omega)
  rw [List.getD_eq_getElem?_getD, hj] at h2
  cases i with
  | zero =>
    have : enc p = u := by simpa using hu
    subst this
    simpa [scalar] using h2
  | succ i => simp at hu
end Kd
end Go.Proofs.YtopcleljecdkkaaDoorW.PrintWords
end
section
namespace Go.Proofs.YtopcleljecdkkaaDoor.Kit
set_option linter.unusedVariables false
set_option linter.unusedSimpArgs false
open Go MapKept
variable {P : Program} {ops : Array Oper} {o : Oper} {A : Act} {w : World}
variable {W : World} {lits : Lits} {m0 i : Nat} {js : List Nat} {mt kt et : TypeId} {d : TypeDesc} {k v z : Value}
theorem LitMap.step_lookup {x kx : Operand} {ok : Bool} (h : LitMap W lits m0 js w) (hok : LitsOk d lits m0) (hm : P.underlying mt = some (.map kt et)) (hd : P.underlying kt = some d) (hz : ∀ w, (zeroValue et).run P w = .ok z w)
    (hop : o.op = .lookup mt x kx false) (hg : o.guard = none) (hx : A.eval x = .map (some W.heap.size)) (hkx : A.eval kx = k) (hk : IsKey d k) (hm0 : m0 ∈ js) (hall : ∀ l ∈ lits, l.1 ∈ js)
    (hi : i ≠ m0) (hl : ∀ l ∈ lits, l.1 ≠ i) (hs : Says (lits.map (·.2)) k z v ok) :
    StepOk P ops o A w fun v' w' => v' = v ∧ LitMap W lits m0 (js ++ [i]) w' := by
  have hH := h.holds hm0 hall
  refine StepOk.value hg (w' := w) ?_ ⟨rfl, h.light hi hl⟩
  simp only [execOp, hop, hx, hkx]
  rw [Sem.run_bind, run_lookup hm hd hz hH (by rw [List.map_map]; exact hok.keys) (by intro p hp; obtain ⟨l, hl, e⟩ := List.mem_map.1 hp; rw [← e]; exact hok.key l hl) hk hs false]
  rfl
end Go.Proofs.YtopcleljecdkkaaDoor.Kit
end
section
namespace Go.Proofs.YtopcleljecdkkaaDoor.Kit
set_option linter.unusedVariables false
set_option linter.unusedSimpArgs false
open Go Go.RowKit
variable {P : Program} {ops : Array Oper} {Q : Exit → Act → World → Prop} {a : Act} {w W0 : World} {rest : List Oper} {o : Oper} {bs bs' : Res} {g off n : Nat} {cs cs' vs : List Value} {T E : TypeId} {v : Value}
theorem own_results2 {fn : Func} {tmps : Array Value} {p q : Tmp} (HO : Mine W0 w bs) (h : fn.results = #[.cell p T, .tmp q]) (hp : tmps.getD p undef = .pointer (some ⟨g, 0, none⟩)) (hm : (g, IsCells cs E) ∈ bs)
    (hagg : ∀ w, (isAgg T).run P w = .ok true w) (hsz : ∀ w, (sizeOf T).run P w = .ok n w) (hs : Slc cs 0 n vs) : (results fn tmps).run P w = .ok (.tuple #[.agg vs.toArray, tmps.getD q undef]) w := by
  have hp' : tmps[p]?.getD undef = .pointer (some ⟨g, 0, none⟩) := by simpa using hp
  simp [results, h, hp', asAddr, run_load_own (HO.at hm) hagg hsz hs]
end Go.Proofs.YtopcleljecdkkaaDoor.Kit
end
section
namespace Go.Proofs.YtopcleljecdkkaaDoor.Kit
set_option linter.unusedVariables false
set_option linter.unusedSimpArgs false
open Go Go.RowKit MapKept
variable {P : Program} {ops : Array Oper} {Q : Exit → Act → World → Prop} {a : Act} {w W0 : World} {rest : List Oper} {o : Oper} {bs bs' : Res} {g : Nat} {mt kt et : TypeId} {d : TypeDesc} {k v z : Value} {T : List (Value × Value)}
section
variable {dp : Nat} {xs ys : Array Value} {f : Field} {fs : List Field} {p q : Value} {r s : Bool}
theorem eqF_nil : (Op.eqFields dp xs ys []).run P w = .ok true w := by simp [Op.eqFields]
theorem eqF_cons (hn : (f.name == "_") = false) (ha : (part f.type xs f.offset).run P w = .ok p w) (hb : (part f.type ys f.offset).run P w = .ok q w) (he : (Op.equalIn dp f.type p q).run P w = .ok r w)
    (hr : (Op.eqFields dp xs ys fs).run P w = .ok s w) : (Op.eqFields dp xs ys (f :: fs)).run P w = .ok (r && s) w := by
  have hn' : f.name ≠ "_" := by simpa using hn
  simp only [Op.eqFields, if_pos hn', Sem.run_bind, ha, hb, he, Result.andThen_ok]
  cases r <;> simp [hr]
theorem eqStruct_of {t : TypeId} {fs : Array Field} (hu : P.underlying t = some (.struct fs)) (hp : P.stoodInHeld t = false) (h : (Op.eqFields dp xs ys fs.toList).run P w = .ok r w) :
    (Op.equalIn (dp + 1) t (.agg xs) (.agg ys)).run P w = .ok r w := by
  have hf : P.fieldsOf t = fs := by simp [Program.fieldsOf, hu]
  rw [run_equalIn_struct (P := P) w dp t xs ys (by rw [hf]; exact hu) hp, hf]
  exact h
end
theorem own_eql {x y : Operand} {t t' : TypeId} {b : Bool} {xs ys : Array Value} (ho : o.op = .binOp .eql t x y t') (hgd : Region.wanted o (yielded ops a.tmps) = true) (hx : a.eval x = .agg xs) (hy : a.eval y = .agg ys)
    (hG : P.eqGuardType P.depth t = false) (hE : ∀ w, (Op.equal t (.agg xs) (.agg ys)).run P w = .ok b w) (h : wpList P ops Q rest (a.put o.dst (.bool b)) w) : wpList P ops Q (o :: rest) a w :=
  wpList_want hgd fun _ hK => by
    have e1 : (eqGuard .eql t x y (.agg xs) (.agg ys)).run P w = .ok () w := by
      simp [eqGuard, Sem.run_bind, go_sem, hG]
    have e2 : (binOp .eql t (.agg xs) (.agg ys)).run P w = .ok (.bool b) w := by
      have e3 : binOp .eql t (.agg xs) (.agg ys) = (do let r ← Op.equal t (.agg xs) (.agg ys); pure (Value.bool r)) := rfl
      rw [e3, Sem.run_bind, hE]
      rfl
    have hr : (execOp a.eval o).run P w = .ok (.value (.bool b)) w := by
      simp only [execOp, ho, hx, hy, Sem.run_bind, e1, Result.andThen_ok, e2]
      rfl
    unfold Oper.wp
    rw [hr]
    exact hK _ _ h
end Go.Proofs.YtopcleljecdkkaaDoor.Kit
end
section
namespace Go.Proofs.YtopcleljecdkkaaDoor.Kit
set_option linter.unusedVariables false
set_option linter.unusedSimpArgs false
open Go Go.RowKit Go.Proofs.YtopcleljecdkkaaDoorW.PrintWords
theorem lit_ints {w : World} {g : Nat} {xs : List Int} (h : w.heap[g]? = some (.cells (xs.map (Value.int .i64)).toArray 3 (0, 0))) (hm : xs.length ≤ 1000) : (Kd.int .i64).C w (some ⟨g, 0, none⟩) xs.length xs := by
  refine Kd.C_of_reads (d := (0 : Int)) ⟨rfl, by omega, fun h0 => ⟨⟨g, 0, none⟩, rfl, fun i hi => ?_⟩⟩
  have : (⟨g, 0, none⟩ : Addr).add i = ⟨g, 0 + i, none⟩ := by unfold Addr.add; split <;> simp_all
  rw [this]
  simp [World.cell?, h, hi, List.getD]
end Go.Proofs.YtopcleljecdkkaaDoor.Kit
end
section
namespace Go.Proofs.YtopcleljecdkkaaDoor.Kit
set_option linter.unusedVariables false
set_option linter.unusedSimpArgs false
open Go Go.RowKit
def fRow (T : TypeId) (n : Nat) (cs : List Value) : Fact := fun v w => ∃ b, v = .slice (some ⟨b, 0, none⟩) n n ∧ w.heap[b]? = some (.cells cs.toArray T (0, 0))
def fVar (B : Nat) (T : TypeId) (cs : List Value) : Fact := fun v w => ∃ b, v = .pointer (some ⟨b, 0, none⟩) ∧ B ≤ b ∧ w.heap[b]? = some (.cells cs.toArray T (0, 0))
theorem Stays.fRow (T : TypeId) (n : Nat) (cs : List Value) : Stays (fRow T n cs) := fun v w w' h hb => by
  obtain ⟨b, h1, h2⟩ := h
  exact ⟨b, h1, (hb.block b (Array.getElem?_eq_some_iff.1 h2).1).trans h2⟩
theorem Stays.fVar (B : Nat) (T : TypeId) (cs : List Value) : Stays (fVar B T cs) := fun v w w' h hb => by
  obtain ⟨b, h1, h2, h3⟩ := h
  exact ⟨b, h1, h2, (hb.block b (Array.getElem?_eq_some_iff.1 h3).1).trans h3⟩
section
variable {P : Program} {Q : Exit → Act → World → Prop}
variable {ops : Array Oper} {A : Act} {w : World} {o : Oper} {fa : Fact}
theorem st_new {v : Value} {ob : Obj} (hg : Region.wanted o (yielded ops A.tmps) = true) (h : (execOp A.eval o).run P w = .ok (.value v) (w.alloc ob)) (hf : (w.alloc ob).heap[w.heap.size]? = some ob → fa v (w.alloc ob)) : StepOk P ops o A w fun v w' => Below w.heap.size w w' ∧ fa v w' :=
  step_made hg h ⟨(Below.refl _ _).alloc (Nat.le_refl _) _, hf (heap_alloc_new w ob)⟩
theorem st_lookup {W0 : World} {bs : Res} {x kx : Operand} {commaOk ok : Bool} {mt kt et : TypeId} {d : TypeDesc} {k v z : Value} {T : List (Value × Value)} {g : Nat} (HO : Mine W0 w bs) (hg : Region.wanted o (yielded ops A.tmps) = true) (ho : o.op = .lookup mt x kx commaOk) (hx : A.eval x = .map (some g)) (hkx : A.eval kx = k)
    (hm : P.underlying mt = some (.map kt et)) (hd : P.underlying kt = some d) (hz : ∀ w, (zeroValue et).run P w = .ok z w) (hmem : (g, IsMapOf T) ∈ bs) (hkeys : (T.map (·.1)).Nodup) (hT : ∀ p ∈ T, MapKept.IsKey d p.1) (hk : MapKept.IsKey d k)
    (hs : Says T k z v ok) (hf : fa (if commaOk then .tuple #[v, .bool ok] else v) w) : StepOk P ops o A w fun v w' => Below w.heap.size w w' ∧ fa v w' :=
  st_val hg (by simp only [execOp, ho, hx, hkx]; rw [Sem.run_bind, run_lookup hm hd hz (HO.holds hmem) hkeys hT hk hs commaOk]; rfl) hf
end
end Go.Proofs.YtopcleljecdkkaaDoor.Kit
end
section
namespace Go.Proofs.YtopcleljecdkkaaDoor.Kit
set_option linter.unusedVariables false
set_option linter.unusedSimpArgs false
open Go Go.RowKit Go.Proofs.YtopcleljecdkkaaDoorW.PrintWords
section
variable {P : Program} {ops : Array Oper} {Q : Exit → Act → World → Prop} {a : Act} {w W0 : World} {rest : List Oper} {o : Oper} {bs bs' : Res} {g off n : Nat} {cs cs' vs : List Value} {T E : TypeId} {v : Value} {X : World → Prop}
theorem own_litX (HO : Mine W0 w bs) (HX : X w) (hb : XB X) (hgd : Region.wanted o (yielded ops a.tmps) = true) {n : Nat} {cs : List Value} {T : TypeId}
    (hrun : (execOp a.eval o).run P w = .ok (.value (.slice (some ⟨w.heap.size, 0, none⟩) n n)) (w.alloc (.cells cs.toArray T)))
    (h : ∀ g w', W0.heap.size ≤ g → Mine W0 w' (bs ++ [(g, IsCells cs T)]) → X w' → wpList P ops Q rest (a.put o.dst (.slice (some ⟨g, 0, none⟩) n n)) w') : wpList P ops Q (o :: rest) a w :=
  wpList_want hgd fun _ hK => by
    unfold Oper.wp
    rw [hrun]
    exact hK _ _ (h _ _ HO.below.size (HO.new _ _ rfl) (hb _ _ HX ((Below.refl _ _).alloc (Nat.le_refl _) _)))
end
end Go.Proofs.YtopcleljecdkkaaDoor.Kit
end
section
namespace Go.Proofs.YtopcleljecdkkaaDoorW.PrintWords
open Go.RowKit
namespace Foot
variable {P Q : World → Prop} {W W1 : World} {ok ok' : Nat → Prop}
theorem now (h : Foot P W ok) : P W := h W (fun _ _ _ => rfl)
theorem imp (h : Foot P W ok) (hi : ∀ W', P W' → Q W') : Foot Q W ok := fun W' hW => hi W' (h W' hW)
end Foot
end Go.Proofs.YtopcleljecdkkaaDoorW.PrintWords
end
section
namespace Go.Proofs.YtopcleljecdkkaaDoor
set_option linter.unusedVariables false
set_option linter.unusedSimpArgs false
open Go
def isMouse (n : Int) : Bool := n == 9 || (n == 1000 || (n == 1002 || n == 1003))
def isCoding (n : Int) : Bool := n == 1005 || (n == 1006 || n == 1015)
def oneM (was n : Int) (on : Bool) : Int := if on then n else if was = n then 0 else was
def flagIx (p : Bool) (n : Int) : Option Nat :=
  if p then (if n = 1 then some 0 else if n = 66 then some 1 else if n = 67 then some 2 else if n = 1004 then some 3 else if n = 2004 then some 4 else none)
  else (if n = 2 then some 5 else if n = 20 then some 6 else none)
def choiceIx (p : Bool) (n : Int) : Option Nat :=
  if p then (if isMouse n then some 7 else if isCoding n then some 8 else none) else none
def setFlag (m : Md) (i : Nat) (on : Bool) : Md :=
  match i with
  | 0 => { m with cursor := on }
  | 1 => { m with keypad := on }
  | 2 => { m with back := on }
  | 3 => { m with focus := on }
  | 4 => { m with paste := on }
  | 5 => { m with lock := on }
  | 6 => { m with line := on }
  | _ => m
def setChoice (m : Md) (i : Nat) (n : Int) (on : Bool) : Md :=
  match i with
  | 7 => { m with mouse := oneM m.mouse n on }
  | 8 => { m with coding := oneM m.coding n on }
  | _ => m
def setM (m : Md) (p : Bool) (n : Int) (on : Bool) : Md × Bool :=
  match flagIx p n with
  | some i => (setFlag m i on, true)
  | none => match choiceIx p n with
    | some i => (setChoice m i n on, true)
    | none => (m, false)
def fixedM (p : Bool) (n : Int) : Int := if p then (if n = 7 then 3 else if n = 25 then 3 else 0) else (if n = 4 then 4 else if n = 12 then 4 else 0)
def getM (m : Md) (p : Bool) (n : Int) : Int :=
  if (setM m p n true).2 then (if (setM m p n true).1 = m then 1 else 2) else fixedM p n
end Go.Proofs.YtopcleljecdkkaaDoor
end
section
namespace Go.Proofs.YtopcleljecdkkaaDoor
set_option linter.unusedVariables false
set_option linter.unusedSimpArgs false
open Go.RowKit Kit Go.Proofs.YtopcleljecdkkaaDoorW.PrintWords
attribute [local irreducible] wpList Calls
def NumAt (pr fi : Int) (xs : List Int) (n : Nat) (w : World) : Prop := ∀ W b, Below w.heap.size w W → W.heap[b]? = some (.cells (xs.map (Value.int .i64)).toArray 3 (0, 0)) → Calls Tryd.prog 30 #[.int .u8 pr, .int .u8 fi, .slice (some ⟨b, 0, none⟩) n n] W fun e w' => ∃ v, e = .returned (seqV 1 pr v ⟨#[]⟩ fi ⟨#[]⟩) ∧ Kd.S (Kd.slice 3 (Kd.int .i64)) 52 w' W.heap.size (fun _ => True) v (xs.map fun x => [x]) ∧ Below W.heap.size W w'
theorem boolSays (p : Bool) : Says [(Value.bool true, Value.int .u8 63)] (.bool p) (.int .u8 0) (.int .u8 (if p then 63 else 0)) p := by
  cases p
  · exact .miss (by intro q hq; rw [List.mem_singleton.1 hq]; simp)
  · exact .hit _ (.head _)
set_option maxRecDepth 100000 in
set_option maxHeartbeats 2000000 in
theorem mode_calls (m : Md) (p : Bool) (n fn gv mk : Int) (hmk : mk = if p then 63 else 0) (w : World) (hfact : Gives 29 #[.int .i64 n] (.int .i64 fn) w) (hget : Gives 45 #[m.v, .bool p, .int .i64 n] (.int .i64 gv) w) (hnum : NumAt mk 121 [fn, gv] 2 w) :
    Calls Tryd.prog 18 #[m.v, .bool p, .int .i64 n] w fun e w' => ∃ v, e = .returned (seqV 1 mk v ⟨#[36]⟩ 121 ⟨#[]⟩) ∧ Kd.S (Kd.slice 3 (Kd.int .i64)) 52 w' w.heap.size (fun _ => True) v [[fn], [gv]] ∧ Below w.heap.size w w' := by
  have HO := Mine.start w
  have HF := Lib.hid hfact
  have HG := Lib.hid hget
  have HN := Lib.hid hnum
  have HM := Lib.hid hmk
  clear hfact hget hnum hmk
  obtain ⟨c, x0, x1, x2, x3, x4, x5, x6, x7, x8⟩ := m
  go_enter Tryd.func18, Tryd.ntmps18
  go_wp2_with (first
      | ((with_reducible refine gate ?_); (first
      | ((refine own_makeMap HO rfl rfl ?_); clear HO; intro gM wN hgN HO; (simp only [List.nil_append, List.cons_append] at HO); (try simp only [Act.put, List.setIfInBounds_toArray, List.set_cons_zero, List.set_cons_succ]))
      | ((refine own_insert (mt := 63) HO rfl rfl rfl (by first | exact .const | exact .tmp rfl | exact .func) (by first | exact .const | exact .tmp rfl | exact .func) Tryd.underlying63 Tryd.underlying4 (by first | exact .here | exact .there (.here) | exact .there (.there (.here)) | exact .there (.there (.there (.here))) | exact .there (.there (.there (.there (.here)))) | exact .there (.there (.there (.there (.there (.here)))))) (by simp [MapKept.IsKey]) (by first | exact rfl | exact trivial) (by simp) ?_); clear HO; intro wN HO; (simp only [List.nil_append, List.cons_append] at HO); (try simp only [Act.put, List.setIfInBounds_toArray, List.set_cons_zero, List.set_cons_succ]))
      | ((refine own_box HO rfl rfl rfl ?_); clear HO; intro gB wN hgN HO; (simp only [List.nil_append, List.cons_append] at HO); (try simp only [Act.put, List.setIfInBounds_toArray, List.set_cons_zero, List.set_cons_succ]))
      | ((refine own_alloc (T := 30) HO rfl rfl Tryd.zeroValue30 rfl ?_); clear HO; intro gN wN hgN HO; (simp only [List.nil_append, List.cons_append] at HO); (try simp only [Act.put, List.setIfInBounds_toArray, List.set_cons_zero, List.set_cons_succ]))
      | ((refine own_load (T := 39) HO rfl rfl rfl (by first | exact .head _ | exact .tail _ (.head _) | exact .tail _ (.tail _ (.head _)) | exact .tail _ (.tail _ (.tail _ (.head _))) | exact .tail _ (.tail _ (.tail _ (.tail _ (.head _)))) | exact .tail _ (.tail _ (.tail _ (.tail _ (.tail _ (.head _)))))) Tryd.isAgg39 Tryd.sizeOf39 (by repeat constructor) ?_); (try simp only [Act.put, List.setIfInBounds_toArray, List.set_cons_zero, List.set_cons_succ]))
      | ((refine own_load (T := 30) HO rfl rfl rfl (by first | exact .head _ | exact .tail _ (.head _) | exact .tail _ (.tail _ (.head _)) | exact .tail _ (.tail _ (.tail _ (.head _))) | exact .tail _ (.tail _ (.tail _ (.tail _ (.head _)))) | exact .tail _ (.tail _ (.tail _ (.tail _ (.tail _ (.head _)))))) Tryd.isAgg30 Tryd.sizeOf30 (by repeat constructor) ?_); (try simp only [Act.put, List.setIfInBounds_toArray, List.set_cons_zero, List.set_cons_succ]))
      | ((refine own_store (T := 39) HO rfl rfl rfl rfl (by first | exact .here | exact .there (.here) | exact .there (.there (.here)) | exact .there (.there (.there (.here))) | exact .there (.there (.there (.there (.here)))) | exact .there (.there (.there (.there (.there (.here)))))) Tryd.sizeOf39 (by repeat constructor) rfl ?_); clear HO; intro wN HO; (try simp only [Act.put, List.setIfInBounds_toArray, List.set_cons_zero, List.set_cons_succ]))
      | ((refine own_store (T := 30) HO rfl rfl rfl rfl (by first | exact .here | exact .there (.here) | exact .there (.there (.here)) | exact .there (.there (.there (.here))) | exact .there (.there (.there (.there (.here)))) | exact .there (.there (.there (.there (.there (.here)))))) Tryd.sizeOf30 (by repeat constructor) rfl ?_); clear HO; intro wN HO; (try simp only [Act.put, List.setIfInBounds_toArray, List.set_cons_zero, List.set_cons_succ])))))
  have hlt : ∀ q ∈ [(gB, IsCells [Value.bool c, Value.bool x0, Value.bool x1, Value.bool x2, Value.bool x3, Value.bool x4, Value.bool x5, Value.int .i64 x6, Value.int .i64 x7, Value.int .i64 x8] 39), (gN, IsCells [Value.int .i64 0, Value.int .u8 0, Value.slice none 0 0, Value.string ⟨#[]⟩, Value.int .u8 0, Value.string ⟨#[]⟩] 30), (gM, IsMapOf [(Value.bool true, Value.int .u8 63)])], q.1 < wN.heap.size := fun q hq => HO.lt hq
  have hW0 := HO.below.size
  have HL := Lib.hid hlt
  have HW0 := Lib.hid hW0
  clear hlt hW0
  refine region_mine 12 [fIs (.map (some gM)), fIs (.bool p), fIs (.int .u8 mk), fIs (.int .i64 n), fIs (.int .i64 fn), fIs (Md.v ⟨c, x0, x1, x2, x3, x4, x5, x6, x7, x8⟩), fIs (.bool p), fIs (.int .i64 n), fIs (.int .i64 gv), fRow 3 2 [.int .i64 fn, .int .i64 gv], fSeq w.heap.size 1 mk [[fn], [gv]] ⟨#[]⟩ 121 ⟨#[]⟩,
    fVar wN.heap.size 30 [Value.int .i64 0, Value.int .u8 0, Value.slice none 0 0, Value.string ⟨#[]⟩, Value.int .u8 0, Value.string ⟨#[]⟩]] HO (by kernel_rfl) (by kernel_rfl) (by decide) (by kernel_rfl)
    (stays_cons (Stays.fIs _) (stays_cons (Stays.fIs _) (stays_cons (Stays.fIs _) (stays_cons (Stays.fIs _) (stays_cons (Stays.fIs _) (stays_cons (Stays.fIs _) (stays_cons (Stays.fIs _) (stays_cons (Stays.fIs _) (stays_cons (Stays.fIs _) (stays_cons (Stays.fRow _ _ _) (stays_cons (stays_seq _ _ _ _ _ _ _) (stays_cons (Stays.fVar _ _ _) stays_nil)))))))))))) ?_
  intro vals A hA
  simp [fillL, dstOf, List.range, List.range.loop, Act.put] at hA
  subst hA
  refine ⟨⟨?_, ?_, ?_, ?_, ?_, ?_, ?_, ?_, ?_, ?_, ?_, ?_, trivial⟩, ?_⟩
  all_goals intro W hd hM hsz
  case refine_1 => exact st_val rfl (by simp only [execOp]; first | (go_simp; done) | (go_simp; rfl)) rfl
  case refine_2 => exact st_val rfl (by simp only [execOp]; first | (go_simp; done) | (go_simp; rfl)) rfl
  case refine_3 =>
    have e0 : vals 0 = .map (some gM) := hd 0 (by kernel_rfl)
    have e1 : vals 1 = .bool p := hd 1 (by kernel_rfl)
    exact st_lookup hM rfl rfl e0 e1 Tryd.underlying63 Tryd.underlying4 Tryd.zeroValue5 (.tail _ (.tail _ (.head _))) (by simp) (by simp [MapKept.IsKey]) trivial (boolSays p) (by rw [← HM.out]; exact rfl)
  case refine_4 => exact st_val rfl (by simp only [execOp]; first | (go_simp; done) | (go_simp; rfl)) rfl
  case refine_5 =>
    have e3 : vals 3 = .int .i64 n := hd 3 (by kernel_rfl)
    exact st_call rfl (by simp only [execOp]; first | (go_simp; done) | (go_simp; rfl)) (HF.out W hM.below) (by rintro e w' ⟨rfl, hb⟩; exact ⟨_, rfl, hb, rfl⟩)
  case refine_6 => exact st_load hM rfl rfl rfl (.head _) Tryd.isAgg39 Tryd.sizeOf39 (by repeat constructor) rfl
  case refine_7 => exact st_val rfl (by simp only [execOp]; first | (go_simp; done) | (go_simp; rfl)) rfl
  case refine_8 => exact st_val rfl (by simp only [execOp]; first | (go_simp; done) | (go_simp; rfl)) rfl
  case refine_9 =>
    have e5 : vals 5 = Md.v ⟨c, x0, x1, x2, x3, x4, x5, x6, x7, x8⟩ := hd 5 (by kernel_rfl)
    have e6 : vals 6 = .bool p := hd 6 (by kernel_rfl)
    have e7 : vals 7 = .int .i64 n := hd 7 (by kernel_rfl)
    exact st_call rfl (by simp only [execOp]; first | (go_simp; done) | (go_simp; rfl)) (HG.out W hM.below) (by rintro e w' ⟨rfl, hb⟩; exact ⟨_, rfl, hb, rfl⟩)
  case refine_10 =>
    have e4 : vals 4 = .int .i64 fn := hd 4 (by kernel_rfl)
    have e8 : vals 8 = .int .i64 gv := hd 8 (by kernel_rfl)
    exact st_new (ob := .cells #[.int .i64 fn, .int .i64 gv] 3 (0, 0)) rfl (by simp only [execOp]; first | (go_simp; done) | (go_simp; rfl)) (fun h => ⟨_, rfl, h⟩)
  case refine_11 =>
    have e2 : vals 2 = .int .u8 mk := hd 2 (by kernel_rfl)
    obtain ⟨b, e9, hb9⟩ : fRow 3 2 [.int .i64 fn, .int .i64 gv] (vals 9) W := hd 9 (by kernel_rfl)
    exact st_call rfl (by simp only [execOp]; first | (go_simp; done) | (go_simp; rfl)) (HN.out W b hM.below hb9) (by rintro e w' ⟨v, rfl, hS, hb⟩; exact ⟨_, rfl, hb, v, rfl, Kd.S_lower hS hM.below.size⟩)
  case refine_12 => exact st_new (ob := .cells #[.int .i64 0, .int .u8 0, .slice none 0 0, .string ⟨#[]⟩, .int .u8 0, .string ⟨#[]⟩] 30 (0, 0)) rfl (by simp only [execOp]; first | (go_simp; done) | (go_simp; rfl)) (fun h => ⟨_, rfl, hsz, h⟩)
  case refine_13 =>
    obtain ⟨v, e10, hS⟩ : fSeq w.heap.size 1 mk [[fn], [gv]] ⟨#[]⟩ 121 ⟨#[]⟩ (vals 10) W := hd 10 (by omega)
    obtain ⟨vA, vc, rfl⟩ := Kd.S_slice hS
    obtain ⟨gS, e11, hge, hgS⟩ : fVar wN.heap.size 30 _ (vals 11) W := hd 11 (by omega)
    have HO := hM.take (p := IsCells [.int .i64 0, .int .u8 0, .slice none 0 0, .string ⟨#[]⟩, .int .u8 0, .string ⟨#[]⟩] 30) HL.out HW0.out hge ⟨_, hgS, rfl⟩
    simp only [List.nil_append, List.cons_append] at HO
    have e0 : vals 0 = .map (some gM) := hd 0 (by omega)
    have HXS : XS 30 (fun w' => Kd.S (Kd.slice 3 (Kd.int .i64)) 52 w' w.heap.size (fun _ => True) (.slice vA 2 vc) [[fn], [gv]]) := XS.rows _ _ _ _ _ _ (by decide)
    have HX : (fun w' => Kd.S (Kd.slice 3 (Kd.int .i64)) 52 w' w.heap.size (fun _ => True) (.slice vA 2 vc) [[fn], [gv]]) W := hS
    rw [e10, e11]
    unfold seqV
    simp only [List.drop_succ_cons, List.drop_zero]
    clear hd hM hS hgS
    go_wp2_with (first
      | ((with_reducible refine gate ?_); (first
      | ((refine own_boxX HO HX HXB rfl rfl rfl ?_); clear HO HX; intro gN wN hgN HO HX; (simp only [List.nil_append, List.cons_append] at HO); (try simp only [Act.put, List.setIfInBounds_toArray, List.set_cons_zero, List.set_cons_succ]))
      | ((refine own_load (T := 30) HO rfl rfl rfl (by first | exact .head _ | exact .tail _ (.head _) | exact .tail _ (.tail _ (.head _)) | exact .tail _ (.tail _ (.tail _ (.head _))) | exact .tail _ (.tail _ (.tail _ (.tail _ (.head _)))) | exact .tail _ (.tail _ (.tail _ (.tail _ (.tail _ (.head _)))))) Tryd.isAgg30 Tryd.sizeOf30 (by repeat constructor) ?_); (try simp only [Act.put, List.setIfInBounds_toArray, List.set_cons_zero, List.set_cons_succ]))
      | ((refine own_load1 (T := 9) HO rfl rfl rfl (by first | exact .head _ | exact .tail _ (.head _) | exact .tail _ (.tail _ (.head _)) | exact .tail _ (.tail _ (.tail _ (.head _))) | exact .tail _ (.tail _ (.tail _ (.tail _ (.head _)))) | exact .tail _ (.tail _ (.tail _ (.tail _ (.tail _ (.head _)))))) Tryd.isAgg9 rfl ?_); (try simp only [Act.put, List.setIfInBounds_toArray, List.set_cons_zero, List.set_cons_succ]))
      | ((refine own_storeX (T := 30) HO HX rfl rfl rfl rfl (by first | exact .here | exact .there (.here) | exact .there (.there (.here)) | exact .there (.there (.there (.here))) | exact .there (.there (.there (.there (.here)))) | exact .there (.there (.there (.there (.there (.here)))))) HXS Tryd.sizeOf30 (by repeat constructor) rfl ?_); clear HO HX; intro wN HO HX; (try simp only [Act.put, List.setIfInBounds_toArray, List.set_cons_zero, List.set_cons_succ]))
      | ((refine own_storeX1 (T := 9) HO HX rfl rfl rfl (by first | exact .const | exact .tmp rfl | exact .func) (by rfl) (by first | exact .here | exact .there (.here) | exact .there (.there (.here)) | exact .there (.there (.there (.here))) | exact .there (.there (.there (.there (.here)))) | exact .there (.there (.there (.there (.there (.here)))))) HXS Tryd.sizeOf9 (by repeat constructor) (by rfl) ?_); clear HO HX; intro wN HO HX; (try simp only [Act.put, List.setIfInBounds_toArray, List.set_cons_zero, List.set_cons_succ])))))
    exact bodyPost_ret (own_results1 HO Tryd.results18 rfl (by first | exact .head _ | exact .tail _ (.head _) | exact .tail _ (.tail _ (.head _)) | exact .tail _ (.tail _ (.tail _ (.head _))) | exact .tail _ (.tail _ (.tail _ (.tail _ (.head _)))) | exact .tail _ (.tail _ (.tail _ (.tail _ (.tail _ (.head _)))))) Tryd.isAgg30 Tryd.sizeOf30 (by repeat constructor)) rfl ⟨_, rfl, HX, HO.below⟩
end Go.Proofs.YtopcleljecdkkaaDoor
end
section
namespace Go.Proofs.YtopcleljecdkkaaDoor
set_option linter.unusedVariables false
set_option linter.unusedSimpArgs false
open Go.RowKit Kit Go.Proofs.YtopcleljecdkkaaDoorW.PrintWords
namespace Kit
section
variable {P : Program} {Q : Exit → Act → World → Prop}
theorem region_law (k : Nat) (fs : List Fact) {id : Nat} {l : List Oper} {a0 : Act} {W0 w0 : World} {bs : Res} (HO : Mine W0 w0 bs) (hm : P.follows .mixedOrders = true) (hB : anyOk l.toArray = true) (hk : decide (k ≤ l.length) = true) (hT : tailOk l.toArray k = true)
    (hs : ∀ p ∈ fs, Stays p)
    (h : ∀ vals A, A = fillL l.toArray vals (List.range k) a0 →
      eachFrom (fun i o => ∀ w, (∀ j, waits l.toArray o j = true → Facts fs j (vals j) w) → Mine W0 w bs → Below w0.heap.size w0 w → StepOk P l.toArray o A w fun v w' => Below w.heap.size w w' ∧ Facts fs i v w') 0 (l.take k) ∧
      ∀ w, (∀ i < k, Facts fs i (vals i) w) → Mine W0 w bs → Below w0.heap.size w0 w → wpList P l.toArray Q (l.drop k) A w) :
    (Code.region id l.toArray true).wp P Q a0 w0 := by
  refine wp_region_walk k hm hB hk hT (fun w => Mine W0 w bs ∧ Below w0.heap.size w0 w) (fun a b => Below a.heap.size a b) (fun _ => []) (fun i vals w => Facts fs i (vals i) w) ?_ (fun i vals w w' h1 h2 => Facts.stays hs i _ _ _ h1 h2) (fun i vals vals' w e _ h1 => by rw [e]; exact h1) ⟨HO.drew, (Below.refl _ _).drew⟩ ?_
  · refine List.all_eq_true.2 fun i _ => ?_
    cases l[i]? <;> simp
  · intro vals A hA
    obtain ⟨h1, h2⟩ := h vals A hA
    refine ⟨?_, fun w hf hI => h2 w hf hI.1 hI.2⟩
    have mono : ∀ (R R' : Nat → Oper → Prop), (∀ i o, R i o → R' i o) → ∀ (l : List Oper) (k : Nat), eachFrom R k l → eachFrom R' k l := by
      intro R R' hR l
      induction l with
      | nil => intro k _; trivial
      | cons o l ih => intro k hk; exact ⟨hR _ _ hk.1, ih _ hk.2⟩
    refine mono _ _ (fun i o hi w hf hI => ?_) _ _ h1
    have h3 := hi w hf hI.1 hI.2
    have k2 : ∀ {v w'}, (Below w.heap.size w w' ∧ Facts fs i v w') → ((Mine W0 w' bs ∧ Below w0.heap.size w0 w') ∧ Below w.heap.size w w' ∧ ∀ vals' : Nat → Value, vals' i = v → (∀ d ∈ ([] : List Nat), vals' d = vals d) → Facts fs i (vals' i) w') := by
      rintro v w' ⟨hb, hf⟩
      exact ⟨⟨hI.1.call hb, hI.2.trans (hb.mono hI.2.size)⟩, hb, fun vals' e _ => by rw [e]; exact hf⟩
    unfold StepOk at h3 ⊢
    split
    · rename_i hw
      rw [if_pos hw] at h3
      generalize (execOp A.eval o).run P w = r at h3 ⊢
      cases r with
      | ok n w' =>
        cases n <;> simp only [StepUpon] at h3 ⊢
        case value u => exact k2 h3
        case skip => exact k2 h3
        case enter f args => exact h3.mono fun e w'' he => by obtain ⟨v, rfl, hk⟩ := he; exact ⟨v, rfl, k2 hk⟩
      | halt x w' => simp only [StepUpon] at h3
    · rename_i hw
      rw [if_neg hw] at h3
      exact k2 h3
end
end Kit
theorem fSq.lower {B C : Nat} {q : Sq} {v : Value} {w : World} (h : fSq B q v w) (hBC : C ≤ B) : fSq C q v w := by
  obtain ⟨u, h1, h2⟩ := h
  exact ⟨u, h1, Kd.S_lower h2 hBC⟩
end Go.Proofs.YtopcleljecdkkaaDoor
end
section
namespace Go.Proofs.YtopcleljecdkkaaDoor.Kit
set_option linter.unusedVariables false
set_option linter.unusedSimpArgs false
open Go Go.RowKit
variable {P : Program} {w : World}
theorem step_append_as {ops : Array Oper} {Q : Exit → Act → World → Prop} {a : Act} {rest : List Oper} {o : Oper} {s x : Operand} {t : TypeId} {v y r : Value} {w' : World} (hrun : (Builtin.append_ #[t, t] o.type #[v, y]).run P w = .ok r w') (hop : o.op = .call { callee := .builtin .append, args := #[s, x], argTypes := #[t, t] }) (hg : o.guard = none)
    (hs : a.eval s = v) (hy : a.eval x = y) (h : wpList P ops Q rest (a.put o.dst r) w') : wpList P ops Q (o :: rest) a w := by
  refine wpList_plain hg fun K hK' => ?_
  unfold Oper.wp
  simp [execOp, hop, resolve, invoke, builtin, hs, hy, hrun, Result.andThen]
  exact hK' _ _ h
end Go.Proofs.YtopcleljecdkkaaDoor.Kit
end
section
namespace Go.Proofs.YtopcleljecdkkaaDoor
set_option linter.unusedVariables false
set_option linter.unusedSimpArgs false
open Go.RowKit Kit Go.Proofs.YtopcleljecdkkaaDoorW.PrintWords
attribute [local irreducible] wpList Calls
attribute [local go_sem] Go.Proofs.YtopcleljecdkkaaDoorW.PrintMore.max2_int Go.Proofs.YtopcleljecdkkaaDoorW.PrintMore.min2_int
theorem info_i64 : (Tryd.prog.info? 3).map (fun i => (i.zero, i.size, i.bytes)) = some (some (.int .i64 0), 1, 8) := by kernel_rfl
def intsV (l : List Int) : List Value := l.map (Value.int .i64)
theorem ownsRow_below {w w' : World} {B : Nat} {e : TypeId} {v : Value} {n : Nat} {xs : List Value} (h : w.ownsRow B e 1 v n xs) (hb : Below w.heap.size w w') : w'.ownsRow B e 1 v n xs := by
  refine ⟨h.1, ?_⟩
  rcases h.2 with h | ⟨g, cap, cur, h1, h2, h3, h4, h5, h6⟩
  · exact .inl h
  · exact .inr ⟨g, cap, cur, h1, h2, (hb.block g (Array.getElem?_eq_some_iff.1 h3).1).trans h3, h4, h5, h6⟩
def fOwn (B : Nat) (T : TypeId) (n : Nat) (xs : List Value) : Fact := fun v w => w.ownsRow B T 1 v n xs
theorem stays_own (B : Nat) (T : TypeId) (n : Nat) (xs : List Value) : Stays (fOwn B T n xs) := fun v w w' h hb => ownsRow_below h hb
theorem clone_calls (A : Option Addr) (c : Nat) (ks : List Int) (w : World) (hl : ks.length ≤ 1000) (hr : Reads w A (intsV ks)) :
    Calls Tryd.prog 67 #[.slice A ks.length c] w fun e w' => ∃ v, e = .returned v ∧ w'.ownsRow w.heap.size 3 1 v ks.length (intsV ks) ∧ Below w.heap.size w w' := by
  cases ks with
  | nil =>
    cases A with
    | none => exact (Tryd.slices_Clone_int_nil 0 c w).mono fun e w' h => ⟨_, h.1, by rw [h.2]; exact World.ownsRow_nil _ _ _ _, by rw [h.2]; exact Below.refl _ _⟩
    | some a => exact (Tryd.slices_Clone_int_zero a c w).mono fun e w' ⟨v, h1, h2, _, h3⟩ => ⟨v, h1, h2, h3⟩
  | cons k ks =>
    obtain ⟨b, o, rfl, hc⟩ := hr 0 (.int .i64 k) rfl
    refine (Tryd.slices_Clone_int b o (k :: ks).length c (k :: ks) w (Nat.le_refl _) (by omega) (fun j hj => ?_)).mono fun e w' ⟨v, h1, h2, _, h3⟩ => ⟨v, h1, by rw [List.take_length] at h2; exact h2, h3⟩
    obtain ⟨b', o', he, hc'⟩ := hr j (.int .i64 ((k :: ks).getD j 0)) (by unfold intsV; rw [List.getElem?_map, List.getElem?_eq_getElem hj]; simp [List.getD, List.getElem?_eq_getElem hj])
    cases he
    exact hc'
theorem Kit.Mine.grown' {W0 w w1 : World} {bs : Res} {row : Option Nat} (h : Mine W0 w bs) (hg : w.grownBy w1 row) (hb : ∀ k, row = some k → W0.heap.size ≤ k) (ha : ∀ p ∈ bs, some p.1 ≠ row) : Mine W0 w1 bs :=
  ⟨h.below.grown hg h.below.size hb, h.nodup, fun p hp => by
    obtain ⟨h1, o, h2, h3⟩ := h.held p hp
    exact ⟨h1, o, (hg.block _ (h.lt hp) (ha p hp)).trans h2, h3⟩⟩
theorem own_block {w : World} {B : Nat} {T : TypeId} {v : Value} {n : Nat} {xs : List Value} (h : w.ownsRow B T 1 v n xs) : ∀ k, v.ownBlock = some k → B ≤ k := by
  intro k hk
  rcases h.2 with ⟨h1, _⟩ | ⟨g, cap, cur, h1, h2, _⟩
  · subst h1; cases hk
  · subst h1; cases hk; exact h2
set_option maxRecDepth 100000 in
set_option maxHeartbeats 2000000 in
theorem push_calls (now fl fv : Int) (A : Option Addr) (c : Nat) (ks : List Int) (w : World) (hl : ks.length ≤ 100) (hr : Reads w A (intsV ks))
    (hf : ∀ W, Calls Tryd.prog 68 #[.int .i64 fl] W fun e w' => e = .returned (.int .i64 fv) ∧ Below W.heap.size W w') :
    Calls Tryd.prog 47 #[.agg #[.int .i64 now, .slice A ks.length c], .int .i64 fl] w fun e w' => ∃ A' c', e = .returned (.agg #[.int .i64 fv, .slice A' ((ks ++ [now]).drop (ks.length + 1 - 8)).length c']) ∧ ((ks ++ [now]).drop (ks.length + 1 - 8)).length ≤ c' ∧ Reads w' A' (intsV ((ks ++ [now]).drop (ks.length + 1 - 8))) ∧ Below w.heap.size w w' := by
  have HO := Mine.start w
  have HF := Lib.hid hf
  have HR := Lib.hid hr
  have HL := Lib.hid hl
  clear hf hr hl
  obtain ⟨n, hn⟩ : ∃ n, n = ks.length := ⟨_, rfl⟩
  have HN := Lib.hid hn
  rw [← hn]
  clear hn
  go_enter Tryd.func47, Tryd.ntmps47
  go_wp2_with (first
      | ((with_reducible refine gate ?_); (first
      | ((refine own_box HO rfl rfl rfl ?_); clear HO; intro gB wN hgN HO; (simp only [List.nil_append, List.cons_append] at HO); (try simp only [Act.put, List.setIfInBounds_toArray, List.set_cons_zero, List.set_cons_succ]))
      | ((refine own_alloc (T := 66) HO rfl rfl Tryd.zeroValue66 rfl ?_); clear HO; intro gN wN hgN HO; (simp only [List.nil_append, List.cons_append] at HO); (try simp only [Act.put, List.setIfInBounds_toArray, List.set_cons_zero, List.set_cons_succ]))
      | ((refine own_load (T := 66) HO rfl rfl rfl (by first | exact .head _ | exact .tail _ (.head _) | exact .tail _ (.tail _ (.head _)) | exact .tail _ (.tail _ (.tail _ (.head _))) | exact .tail _ (.tail _ (.tail _ (.tail _ (.head _)))) | exact .tail _ (.tail _ (.tail _ (.tail _ (.tail _ (.head _)))))) Tryd.isAgg66 Tryd.sizeOf66 (by repeat constructor) ?_); (try simp only [Act.put, List.setIfInBounds_toArray, List.set_cons_zero, List.set_cons_succ]))
      | ((refine own_store (T := 66) HO rfl rfl rfl rfl (by first | exact .here | exact .there (.here) | exact .there (.there (.here)) | exact .there (.there (.there (.here))) | exact .there (.there (.there (.there (.here)))) | exact .there (.there (.there (.there (.there (.here)))))) Tryd.sizeOf66 (by repeat constructor) rfl ?_); clear HO; intro wN HO; (try simp only [Act.put, List.setIfInBounds_toArray, List.set_cons_zero, List.set_cons_succ])))))
  have hlt : ∀ q ∈ [(gB, IsCells [Value.int .i64 now, Value.slice A n c] 66), (gN, IsCells [Value.int .i64 0, Value.slice none 0 0] 66)], q.1 < wN.heap.size := fun q hq => HO.lt hq
  have HLT := Lib.hid hlt
  have HW0 := Lib.hid HO.below.size
  clear hlt
  refine region_mine 6 [fIs (.pointer (some ⟨gB, 1, none⟩)), fIs (.slice A n c), fOwn wN.heap.size 3 n (intsV ks), fIs (.pointer (some ⟨gB, 0, none⟩)), fIs (.int .i64 now), fRow 3 1 [.int .i64 now]] HO (by kernel_rfl) (by kernel_rfl) (by decide) (by kernel_rfl)
    (stays_cons (Stays.fIs _) (stays_cons (Stays.fIs _) (stays_cons (stays_own _ _ _ _) (stays_cons (Stays.fIs _) (stays_cons (Stays.fIs _) (stays_cons (Stays.fRow _ _ _) stays_nil)))))) ?_
  intro vals Ac hA
  simp [fillL, dstOf, List.range, List.range.loop, Act.put] at hA
  subst hA
  refine ⟨⟨?_, ?_, ?_, ?_, ?_, ?_, trivial⟩, ?_⟩
  all_goals intro W hd hM hsz
  case refine_1 => exact st_val rfl (by simp only [execOp]; first | (go_simp; done) | (go_simp; rfl)) rfl
  case refine_2 =>
    have v0 : vals 0 = .pointer (some ⟨gB, 1, none⟩) := hd 0 (by kernel_rfl)
    exact st_load1 hM rfl rfl (by rw [← v0]; rfl) (.head _) Tryd.isAgg52 rfl rfl
  case refine_3 =>
    have v1 : vals 1 = .slice A n c := hd 1 (by kernel_rfl)
    have hc := clone_calls A c ks W (by have := HL.out; omega) (HR.out.below hM.below)
    rw [← HN.out] at hc
    exact st_call rfl (by simp only [execOp]; first | (go_simp; done) | (go_simp; rfl)) hc (by rintro e w' ⟨v, rfl, hown, hb⟩; exact ⟨_, rfl, hb, hown.1, hown.2.imp id fun ⟨g, cap, cur, h1, h2, h3⟩ => ⟨g, cap, cur, h1, Nat.le_trans hsz h2, h3⟩⟩)
  case refine_4 => exact st_val rfl (by simp only [execOp]; first | (go_simp; done) | (go_simp; rfl)) rfl
  case refine_5 =>
    have v3 : vals 3 = .pointer (some ⟨gB, 0, none⟩) := hd 3 (by kernel_rfl)
    exact st_load1 hM rfl rfl (by rw [← v3]; rfl) (.head _) Tryd.isAgg3 rfl rfl
  case refine_6 =>
    have v4 : vals 4 = .int .i64 now := hd 4 (by kernel_rfl)
    exact st_new (ob := .cells #[.int .i64 now] 3 (0, 0)) rfl (by simp only [execOp]; first | (go_simp; done) | (go_simp; rfl)) (fun h => ⟨_, rfl, h⟩)
  case refine_7 =>
    have hown : W.ownsRow wN.heap.size 3 1 (vals 2) n (intsV ks) := hd 2 (by omega)
    obtain ⟨b, e5, hb5⟩ : fRow 3 1 [.int .i64 now] (vals 5) W := hd 5 (by omega)
    obtain ⟨v2, e2⟩ : ∃ v2, v2 = vals 2 := ⟨_, rfl⟩
    rw [← e2] at hown
    obtain ⟨i0, hi, hz0, hz1, hz2⟩ := info_parts info_i64
    obtain ⟨v', w', hap, hown', hgr, _⟩ := run_append_own (P := Tryd.prog) (w := W) wN.heap.size 52 52 3 i0 _ 1 8 Tryd.underlying52 hi hz0 hz1 hz2 rfl Nat.one_pos v2 n (intsV ks) hown ⟨b, 0, none⟩ 1 1 [.int .i64 now] rfl
      (fun j u hj => by rw [Addr.add_lit]; simp [World.cell?, hb5, hj]) (by simp [Value.oneCell']) (by have := HL.out; have := HN.out; simp only [maxLen]; omega) (by have := HL.out; have := HN.out; omega) hsz
    have HO := hM.grown' hgr (fun k hk => Nat.le_trans HW0.out (own_block hown k hk)) (fun p hp e => by
      have h1 := HLT.out p hp
      have h2 := own_block hown p.1 e.symm
      omega)
    rw [← e2, e5]
    obtain ⟨g, cap, cur, hv', hg0, hgc, hcs, hcm, hln, htk⟩ : ∃ g cap cur, v' = .slice (some ⟨g, 0, none⟩) (n + 1) cap ∧ wN.heap.size ≤ g ∧ w'.heap[g]? = some (.cells cur 3 (0, 0)) ∧ n + 1 ≤ cap ∧ cap ≤ maxLen ∧ True ∧ (cur.toList.take (n + 1)) = intsV (ks ++ [now]) := by
      rcases hown'.2 with ⟨_, h⟩ | ⟨g, cap, cur, h1, h2, h3, h4, h5, h6, h7⟩
      · exfalso; omega
      · exact ⟨g, cap, cur, h1, h2, h3, h4, h5, trivial, by simpa [intsV] using h7⟩
    subst hv'
    have HO2 := HO.take (p := IsCells cur.toList 3) HLT.out HW0.out hg0 ⟨_, hgc, by simp [IsCells]⟩
    clear HO
    have HO := HO2
    clear HO2
    simp only [List.nil_append, List.cons_append] at HO
    have HG := Lib.hid (And.intro hgc (And.intro htk (And.intro hcs hcm)))
    simp only [List.drop_succ_cons, List.drop_zero]
    clear hd hM hown hb5 hown' hgr hi hz0 hz1 hz2 e2 hgc htk hcm
    go_wp2_with (first | ((with_reducible refine gate ?_); refine step_append_as hap rfl rfl rfl rfl ?_))
    obtain ⟨m, hm⟩ : ∃ m : Nat, m = n + 1 - 8 := ⟨_, rfl⟩
    have hn100 : n ≤ 100 := by have := HL.out; have := HN.out; omega
    have w1 : IntKind.i64.wrap ((n : Int) + 1 - 8) = (n : Int) + 1 - 8 := IntWalk.i64_in _ (by omega)
    have w2 : (if (n : Int) + 1 - 8 < 0 then 0 else (n : Int) + 1 - 8) = (m : Int) := by split <;> omega
    have w3 : (n : Int) + 1 - (m : Int) = ((n + 1 - m : Nat) : Int) := by omega
    have w4 : (cap : Int) - (m : Int) = ((cap - m : Nat) : Int) := by omega
    have w5 : decide ((0 : Int) ≤ (m : Int)) = true := decide_eq_true (by omega)
    have w6 : decide ((m : Int) ≤ (n : Int) + 1) = true := decide_eq_true (by omega)
    have w7 : m ≤ n + 1 := by omega
    have w8 : ¬ (cap = m) := by omega
    have w9 : (m : Int) ≤ (n : Int) + 1 := by omega
    have w10 : max ((n : Int) + 1 - 8) 0 = (m : Int) := by omega
    have HM := Lib.hid hm
    clear hm hcs hn100
    refine region_mine 9 [fIs (.int .i64 fl), fIs (.int .i64 fv), fIs (.slice (some ⟨g, 0, none⟩) (n + 1) cap), fIs (.slice (some ⟨g, 0, none⟩) (n + 1) cap), fIs (.int .i64 ((n : Int) + 1)), fIs (.int .i64 ((n : Int) + 1 - 8)), fIs (.int .i64 (m : Int)), fIs (.slice (some ⟨g, m, none⟩) (n + 1 - m) (cap - m)), fIs (.agg #[.int .i64 fv, .slice (some ⟨g, m, none⟩) (n + 1 - m) (cap - m)])] HO (by kernel_rfl) (by kernel_rfl) (by decide) (by kernel_rfl)
      (stays_cons (Stays.fIs _) (stays_cons (Stays.fIs _) (stays_cons (Stays.fIs _) (stays_cons (Stays.fIs _) (stays_cons (Stays.fIs _) (stays_cons (Stays.fIs _) (stays_cons (Stays.fIs _) (stays_cons (Stays.fIs _) (stays_cons (Stays.fIs _) stays_nil))))))))) ?_
    intro vals2 Ac hA
    simp [fillL, dstOf, List.range, List.range.loop, Act.put] at hA
    subst hA
    refine ⟨⟨?_, ?_, ?_, ?_, ?_, ?_, ?_, ?_, ?_, trivial⟩, ?_⟩
    all_goals intro W2 hd hM hsz2
    case refine_1 => exact st_val rfl (by simp only [execOp]; first | (go_simp; done) | (go_simp; rfl)) rfl
    case refine_2 =>
      have v0 : vals2 0 = .int .i64 fl := hd 0 (by kernel_rfl)
      exact st_call rfl (by simp only [execOp]; first | (go_simp; done) | (go_simp; rfl)) (HF.out W2) (by rintro e w'' ⟨rfl, hb⟩; exact ⟨_, rfl, hb, rfl⟩)
    case refine_3 => exact st_val rfl (by simp only [execOp]; first | (go_simp; done) | (go_simp; rfl)) rfl
    case refine_4 => exact st_val rfl (by simp only [execOp]; first | (go_simp; done) | (go_simp; rfl)) rfl
    case refine_5 =>
      have v3 : vals2 3 = .slice (some ⟨g, 0, none⟩) (n + 1) cap := hd 3 (by kernel_rfl)
      exact st_val rfl (by simp only [execOp]; first | (go_simp; done) | (go_simp; rfl)) rfl
    case refine_6 =>
      have v4 : vals2 4 = .int .i64 ((n : Int) + 1) := hd 4 (by kernel_rfl)
      exact st_val rfl (by simp only [execOp]; first | (go_simp; done) | (go_simp; rfl)) rfl
    case refine_7 =>
      have v5 : vals2 5 = .int .i64 ((n : Int) + 1 - 8) := hd 5 (by kernel_rfl)
      exact st_val rfl (by simp only [execOp]; first | (go_simp; done) | (go_simp; rfl)) rfl
    case refine_8 =>
      have v2' : vals2 2 = .slice (some ⟨g, 0, none⟩) (n + 1) cap := hd 2 (by kernel_rfl)
      have v6 : vals2 6 = .int .i64 (m : Int) := hd 6 (by kernel_rfl)
      exact st_val rfl (by simp only [execOp]; first | (go_simp; done) | (go_simp; rfl)) rfl
    case refine_9 =>
      have v1 : vals2 1 = .int .i64 fv := hd 1 (by kernel_rfl)
      have v7 : vals2 7 = .slice (some ⟨g, m, none⟩) (n + 1 - m) (cap - m) := hd 7 (by kernel_rfl)
      exact st_val rfl (by simp only [execOp]; first | (go_simp; done) | (go_simp; rfl)) rfl
    case refine_10 =>
      have v8 : vals2 8 = .agg #[.int .i64 fv, .slice (some ⟨g, m, none⟩) (n + 1 - m) (cap - m)] := hd 8 (by omega)
      have HO := hM
      have HS2 := Lib.hid hsz2
      rw [v8]
      simp only [List.drop_succ_cons, List.drop_zero]
      clear hd hM hsz2
      go_wp2_with (first
      | ((with_reducible refine gate ?_); (first
      | ((refine own_box HO rfl rfl rfl ?_); clear HO; intro gN wN hgN HO; (simp only [List.nil_append, List.cons_append] at HO); (try simp only [Act.put, List.setIfInBounds_toArray, List.set_cons_zero, List.set_cons_succ]))
      | ((refine own_load (T := 66) HO rfl rfl rfl (by first | exact .head _ | exact .tail _ (.head _) | exact .tail _ (.tail _ (.head _)) | exact .tail _ (.tail _ (.tail _ (.head _))) | exact .tail _ (.tail _ (.tail _ (.tail _ (.head _)))) | exact .tail _ (.tail _ (.tail _ (.tail _ (.tail _ (.head _)))))) Tryd.isAgg66 Tryd.sizeOf66 (by repeat constructor) ?_); (try simp only [Act.put, List.setIfInBounds_toArray, List.set_cons_zero, List.set_cons_succ]))
      | ((refine own_store (T := 66) HO rfl rfl rfl rfl (by first | exact .here | exact .there (.here) | exact .there (.there (.here)) | exact .there (.there (.there (.here))) | exact .there (.there (.there (.there (.here)))) | exact .there (.there (.there (.there (.there (.here)))))) Tryd.sizeOf66 (by repeat constructor) rfl ?_); clear HO; intro wN HO; (try simp only [Act.put, List.setIfInBounds_toArray, List.set_cons_zero, List.set_cons_succ])))))
      have hlen : ((ks ++ [now]).drop (n + 1 - 8)).length = n + 1 - m := by rw [List.length_drop, List.length_append, ← HN.out, HM.out]; rfl
      refine bodyPost_ret (own_results1 HO Tryd.results47 rfl (by first | exact .head _ | exact .tail _ (.head _) | exact .tail _ (.tail _ (.head _)) | exact .tail _ (.tail _ (.tail _ (.head _))) | exact .tail _ (.tail _ (.tail _ (.tail _ (.head _)))) | exact .tail _ (.tail _ (.tail _ (.tail _ (.tail _ (.head _)))))) Tryd.isAgg66 Tryd.sizeOf66 (by repeat constructor)) rfl ⟨some ⟨g, m, none⟩, cap - m, by rw [hlen], by rw [hlen]; have := HG.out.2.2.1; omega, ?_, HO.below⟩
      have hat := HO.at (g := g) (.tail _ (.tail _ (.head _)))
      intro j x hj
      refine ⟨g, m, rfl, ?_⟩
      have h1 : (intsV (ks ++ [now]))[m + j]? = some x := by
        unfold intsV at hj ⊢
        rw [List.map_drop, List.getElem?_drop] at hj
        rw [HM.out]
        exact hj
      rw [← HG.out.2.1, List.getElem?_take] at h1
      split at h1
      · simp [World.cell?, hat]
        simpa using h1
      · cases h1
end Go.Proofs.YtopcleljecdkkaaDoor
end
section
namespace Go.Proofs.YtopcleljecdkkaaDoor
open Go
theorem ret_int {k : IntKind} {a b : Int} (h : a = b) : Ending.returned (.int k a) = .returned (.int k b) := by rw [h]
end Go.Proofs.YtopcleljecdkkaaDoor
end
section
namespace Go.Proofs.YtopcleljecdkkaaDoor
set_option linter.unusedVariables false
set_option linter.unusedSimpArgs false
set_option maxRecDepth 100000
open Go.RowKit Kit
theorem flagIx_says (b : Nat) (n : Int) : ∃ ok, Says [(Value.int .i64 1, ptrAt b (some 0)), (.int .i64 66, ptrAt b (some 1)), (.int .i64 67, ptrAt b (some 2)), (.int .i64 1004, ptrAt b (some 3)), (.int .i64 2004, ptrAt b (some 4))] (.int .i64 n) (.pointer none) (ptrAt b (flagIx true n)) ok := by
  simp only [flagIx, if_true]
  by_cases h1 : n = 1
  · subst h1; exact ⟨_, .hit _ (by simp)⟩
  by_cases h2 : n = 66
  · subst h2; exact ⟨_, .hit _ (by simp)⟩
  by_cases h3 : n = 67
  · subst h3; exact ⟨_, .hit _ (by simp)⟩
  by_cases h4 : n = 1004
  · subst h4; exact ⟨_, .hit _ (by simp)⟩
  by_cases h5 : n = 2004
  · subst h5; exact ⟨_, .hit _ (by simp)⟩
  rw [if_neg h1, if_neg h2, if_neg h3, if_neg h4, if_neg h5]
  exact ⟨_, .miss (by simp [h1, h2, h3, h4, h5, eq_comm])⟩
theorem flagIx_says' (b : Nat) (n : Int) : ∃ ok, Says [(Value.int .i64 2, ptrAt b (some 5)), (.int .i64 20, ptrAt b (some 6))] (.int .i64 n) (.pointer none) (ptrAt b (flagIx false n)) ok := by
  simp only [flagIx, Bool.false_eq_true, if_false]
  by_cases h1 : n = 2
  · subst h1; exact ⟨_, .hit _ (by simp)⟩
  by_cases h2 : n = 20
  · subst h2; exact ⟨_, .hit _ (by simp)⟩
  rw [if_neg h1, if_neg h2]
  exact ⟨_, .miss (by simp [h1, h2, eq_comm])⟩
theorem choiceIx_says (b : Nat) (n : Int) : ∃ ok, Says [(Value.int .i64 9, ptrAt b (some 7)), (.int .i64 1000, ptrAt b (some 7)), (.int .i64 1002, ptrAt b (some 7)), (.int .i64 1003, ptrAt b (some 7)), (.int .i64 1005, ptrAt b (some 8)), (.int .i64 1006, ptrAt b (some 8)), (.int .i64 1015, ptrAt b (some 8))]
    (.int .i64 n) (.pointer none) (ptrAt b (choiceIx true n)) ok := by
  by_cases h1 : n = 9
  · subst h1; exact ⟨_, .hit _ (by simp [choiceIx, isMouse, isCoding])⟩
  by_cases h2 : n = 1000
  · subst h2; exact ⟨_, .hit _ (by simp [choiceIx, isMouse, isCoding])⟩
  by_cases h3 : n = 1002
  · subst h3; exact ⟨_, .hit _ (by simp [choiceIx, isMouse, isCoding])⟩
  by_cases h4 : n = 1003
  · subst h4; exact ⟨_, .hit _ (by simp [choiceIx, isMouse, isCoding])⟩
  by_cases h5 : n = 1005
  · subst h5; exact ⟨_, .hit _ (by simp [choiceIx, isMouse, isCoding])⟩
  by_cases h6 : n = 1006
  · subst h6; exact ⟨_, .hit _ (by simp [choiceIx, isMouse, isCoding])⟩
  by_cases h7 : n = 1015
  · subst h7; exact ⟨_, .hit _ (by simp [choiceIx, isMouse, isCoding])⟩
  have e1 : isMouse n = false := by simp [isMouse, h1, h2, h3, h4]
  have e2 : isCoding n = false := by simp [isCoding, h5, h6, h7]
  have e3 : choiceIx true n = none := by simp [choiceIx, e1, e2]
  rw [e3]
  exact ⟨_, .miss (by simp [h1, h2, h3, h4, h5, h6, h7, eq_comm])⟩
theorem flag_calls (b : Nat) (p : Bool) (n : Int) (w : World) :
    Calls Tryd.prog 75 #[.pointer (some ⟨b, 0, none⟩), .bool p, .int .i64 n] w fun e w' => e = .returned (ptrAt b (flagIx p n)) ∧ Below w.heap.size w w' := by
  cases p
  · obtain ⟨ok, hs⟩ := flagIx_says' b n
    have HS := Lib.hid hs
    clear hs
    go_enter Tryd.func75, Tryd.ntmps75
    go_wp2
    have hok : LitsOk (.int .i64) [(4, Value.int .i64 2, ptrAt b (some 5)), (8, Value.int .i64 20, ptrAt b (some 6))] 0 := ⟨by simp, by simp, by simp [MapKept.IsKey], by simp⟩
    have HOK := Lib.hid hok
    clear hok
    refine wp_region_fixed (by kernel_rfl) (by kernel_rfl) (fun i => [Value.map (some w.heap.size), Value.pointer (some ⟨b, 0, none⟩), Value.pointer (some ⟨b, 0, none⟩), Value.pointer (some ⟨b, 5, none⟩), undef, Value.pointer (some ⟨b, 0, none⟩), Value.pointer (some ⟨b, 0, none⟩), Value.pointer (some ⟨b, 6, none⟩), undef, Value.map (some w.heap.size), Value.int .i64 n, ptrAt b (flagIx false n), ptrAt b (flagIx false n)].getD i undef) (LitMap w.drew [(4, Value.int .i64 2, ptrAt b (some 5)), (8, Value.int .i64 20, ptrAt b (some 6))] 0) LitMap.start ?_
    intro A hA
    simp [fillL, dstOf, List.range, List.range.loop, Act.put] at hA
    subst hA
    refine ⟨?steps, ?fin⟩
    case steps =>
      refine ⟨?_, ?_, ?_, ?_, ?_, ?_, ?_, ?_, ?_, ?_, ?_, ?_, ?_, trivial⟩
      all_goals intro js w1 hni hdep hC
      case refine_1 => exact hC.step_make HOK.out rfl rfl hni
      case refine_12 => exact hC.step_lookup HOK.out Tryd.underlying74 Tryd.underlying3 (z := .pointer none) (fun w => by kernel_rfl) rfl rfl rfl rfl (show MapKept.IsKey (.int .i64) (.int .i64 n) from rfl) (hdep 0 (by kernel_rfl)) (by simp; exact ⟨hdep 4 (by kernel_rfl), hdep 8 (by kernel_rfl)⟩) (by decide) (by simp) HS.out
      all_goals first
        | exact hC.step_insert HOK.out Tryd.underlying74 Tryd.underlying3 rfl rfl rfl rfl rfl (hdep 0 (by kernel_rfl)) hni (by first | exact .head _ | exact .tail _ (.head _))
        | exact hC.step_light rfl (by simp only [execOp]; first | (go_simp; done) | (go_simp; rfl)) (by decide) (by simp)
    case fin =>
      intro js w1 hall hC
      obtain ⟨es, c, rfl, hp⟩ := hC.whole (hall 0 (by decide)) (by intro l hl; refine hall l.1 ?_; simp at hl; rcases hl with rfl | rfl <;> simp)
      go_wp2
      go_ret
      exact ⟨rfl, (Below.refl _ _).drew.alloc (Nat.le_refl _) _⟩
  · obtain ⟨ok, hs⟩ := flagIx_says b n
    have HS := Lib.hid hs
    clear hs
    go_enter Tryd.func75, Tryd.ntmps75
    go_wp2
    have hok : LitsOk (.int .i64) [(4, Value.int .i64 1, ptrAt b (some 0)), (8, Value.int .i64 66, ptrAt b (some 1)), (12, Value.int .i64 67, ptrAt b (some 2)), (16, Value.int .i64 1004, ptrAt b (some 3)), (20, Value.int .i64 2004, ptrAt b (some 4))] 0 := ⟨by simp, by simp, by simp [MapKept.IsKey], by simp⟩
    have HOK := Lib.hid hok
    clear hok
    refine wp_region_fixed (by kernel_rfl) (by kernel_rfl) (fun i => [Value.map (some w.heap.size), Value.pointer (some ⟨b, 0, none⟩), Value.pointer (some ⟨b, 0, none⟩), Value.pointer (some ⟨b, 0, none⟩), undef, Value.pointer (some ⟨b, 0, none⟩), Value.pointer (some ⟨b, 0, none⟩), Value.pointer (some ⟨b, 1, none⟩), undef, Value.pointer (some ⟨b, 0, none⟩), Value.pointer (some ⟨b, 0, none⟩), Value.pointer (some ⟨b, 2, none⟩), undef, Value.pointer (some ⟨b, 0, none⟩), Value.pointer (some ⟨b, 0, none⟩), Value.pointer (some ⟨b, 3, none⟩), undef, Value.pointer (some ⟨b, 0, none⟩), Value.pointer (some ⟨b, 0, none⟩), Value.pointer (some ⟨b, 4, none⟩), undef, Value.map (some w.heap.size), Value.int .i64 n, ptrAt b (flagIx true n), ptrAt b (flagIx true n)].getD i undef) (LitMap w.drew [(4, Value.int .i64 1, ptrAt b (some 0)), (8, Value.int .i64 66, ptrAt b (some 1)), (12, Value.int .i64 67, ptrAt b (some 2)), (16, Value.int .i64 1004, ptrAt b (some 3)), (20, Value.int .i64 2004, ptrAt b (some 4))] 0) LitMap.start ?_
    intro A hA
    simp [fillL, dstOf, List.range, List.range.loop, Act.put] at hA
    subst hA
    refine ⟨?steps, ?fin⟩
    case steps =>
      refine ⟨?_, ?_, ?_, ?_, ?_, ?_, ?_, ?_, ?_, ?_, ?_, ?_, ?_, ?_, ?_, ?_, ?_, ?_, ?_, ?_, ?_, ?_, ?_, ?_, ?_, trivial⟩
      all_goals intro js w1 hni hdep hC
      case refine_1 => exact hC.step_make HOK.out rfl rfl hni
      case refine_24 => exact hC.step_lookup HOK.out Tryd.underlying74 Tryd.underlying3 (z := .pointer none) (fun w => by kernel_rfl) rfl rfl rfl rfl (show MapKept.IsKey (.int .i64) (.int .i64 n) from rfl) (hdep 0 (by kernel_rfl)) (by simp; exact ⟨hdep 4 (by kernel_rfl), hdep 8 (by kernel_rfl), hdep 12 (by kernel_rfl), hdep 16 (by kernel_rfl), hdep 20 (by kernel_rfl)⟩) (by decide) (by simp) HS.out
      all_goals first
        | exact hC.step_insert HOK.out Tryd.underlying74 Tryd.underlying3 rfl rfl rfl rfl rfl (hdep 0 (by kernel_rfl)) hni (by first | exact .head _ | exact .tail _ (.head _) | exact .tail _ (.tail _ (.head _)) | exact .tail _ (.tail _ (.tail _ (.head _))) | exact .tail _ (.tail _ (.tail _ (.tail _ (.head _)))))
        | exact hC.step_light rfl (by simp only [execOp]; first | (go_simp; done) | (go_simp; rfl)) (by decide) (by simp)
    case fin =>
      intro js w1 hall hC
      obtain ⟨es, c, rfl, hp⟩ := hC.whole (hall 0 (by decide)) (by intro l hl; refine hall l.1 ?_; simp at hl; rcases hl with rfl | rfl | rfl | rfl | rfl <;> simp)
      go_wp2
      go_ret
      exact ⟨rfl, (Below.refl _ _).drew.alloc (Nat.le_refl _) _⟩
theorem choice_calls (b : Nat) (p : Bool) (n : Int) (w : World) :
    Calls Tryd.prog 76 #[.pointer (some ⟨b, 0, none⟩), .bool p, .int .i64 n] w fun e w' => e = .returned (ptrAt b (choiceIx p n)) ∧ Below w.heap.size w w' := by
  cases p
  · go_enter Tryd.func76, Tryd.ntmps76
    go_wp2
    go_ret
    exact ⟨rfl, Below.refl _ _⟩
  · obtain ⟨ok, hs⟩ := choiceIx_says b n
    have HS := Lib.hid hs
    clear hs
    go_enter Tryd.func76, Tryd.ntmps76
    go_wp2
    have hok : LitsOk (.int .i64) [(4, Value.int .i64 9, ptrAt b (some 7)), (8, Value.int .i64 1000, ptrAt b (some 7)), (12, Value.int .i64 1002, ptrAt b (some 7)), (16, Value.int .i64 1003, ptrAt b (some 7)), (20, Value.int .i64 1005, ptrAt b (some 8)), (24, Value.int .i64 1006, ptrAt b (some 8)), (28, Value.int .i64 1015, ptrAt b (some 8))] 0 := ⟨by simp, by simp, by simp [MapKept.IsKey], by simp⟩
    have HOK := Lib.hid hok
    clear hok
    refine wp_region_fixed (by kernel_rfl) (by kernel_rfl) (fun i => [Value.map (some w.heap.size), Value.pointer (some ⟨b, 0, none⟩), Value.pointer (some ⟨b, 0, none⟩), Value.pointer (some ⟨b, 7, none⟩), undef, Value.pointer (some ⟨b, 0, none⟩), Value.pointer (some ⟨b, 0, none⟩), Value.pointer (some ⟨b, 7, none⟩), undef, Value.pointer (some ⟨b, 0, none⟩), Value.pointer (some ⟨b, 0, none⟩), Value.pointer (some ⟨b, 7, none⟩), undef, Value.pointer (some ⟨b, 0, none⟩), Value.pointer (some ⟨b, 0, none⟩), Value.pointer (some ⟨b, 7, none⟩), undef, Value.pointer (some ⟨b, 0, none⟩), Value.pointer (some ⟨b, 0, none⟩), Value.pointer (some ⟨b, 8, none⟩), undef, Value.pointer (some ⟨b, 0, none⟩), Value.pointer (some ⟨b, 0, none⟩), Value.pointer (some ⟨b, 8, none⟩), undef, Value.pointer (some ⟨b, 0, none⟩), Value.pointer (some ⟨b, 0, none⟩), Value.pointer (some ⟨b, 8, none⟩), undef, Value.map (some w.heap.size), Value.int .i64 n, ptrAt b (choiceIx true n), ptrAt b (choiceIx true n)].getD i undef) (LitMap w.drew [(4, Value.int .i64 9, ptrAt b (some 7)), (8, Value.int .i64 1000, ptrAt b (some 7)), (12, Value.int .i64 1002, ptrAt b (some 7)), (16, Value.int .i64 1003, ptrAt b (some 7)), (20, Value.int .i64 1005, ptrAt b (some 8)), (24, Value.int .i64 1006, ptrAt b (some 8)), (28, Value.int .i64 1015, ptrAt b (some 8))] 0) LitMap.start ?_
    intro A hA
    simp [fillL, dstOf, List.range, List.range.loop, Act.put] at hA
    subst hA
    refine ⟨?steps, ?fin⟩
    case steps =>
      refine ⟨?_, ?_, ?_, ?_, ?_, ?_, ?_, ?_, ?_, ?_, ?_, ?_, ?_, ?_, ?_, ?_, ?_, ?_, ?_, ?_, ?_, ?_, ?_, ?_, ?_, ?_, ?_, ?_, ?_, ?_, ?_, ?_, ?_, trivial⟩
      all_goals intro js w1 hni hdep hC
      case refine_1 => exact hC.step_make HOK.out rfl rfl hni
      case refine_32 => exact hC.step_lookup HOK.out Tryd.underlying105 Tryd.underlying3 (z := .pointer none) (fun w => by kernel_rfl) rfl rfl rfl rfl (show MapKept.IsKey (.int .i64) (.int .i64 n) from rfl) (hdep 0 (by kernel_rfl)) (by simp; exact ⟨hdep 4 (by kernel_rfl), hdep 8 (by kernel_rfl), hdep 12 (by kernel_rfl), hdep 16 (by kernel_rfl), hdep 20 (by kernel_rfl), hdep 24 (by kernel_rfl), hdep 28 (by kernel_rfl)⟩) (by decide) (by simp) HS.out
      all_goals first
        | exact hC.step_insert HOK.out Tryd.underlying105 Tryd.underlying3 rfl rfl rfl rfl rfl (hdep 0 (by kernel_rfl)) hni (by first | exact .head _ | exact .tail _ (.head _) | exact .tail _ (.tail _ (.head _)) | exact .tail _ (.tail _ (.tail _ (.head _))) | exact .tail _ (.tail _ (.tail _ (.tail _ (.head _)))) | exact .tail _ (.tail _ (.tail _ (.tail _ (.tail _ (.head _))))) | exact .tail _ (.tail _ (.tail _ (.tail _ (.tail _ (.tail _ (.head _)))))))
        | exact hC.step_light rfl (by simp only [execOp]; first | (go_simp; done) | (go_simp; rfl)) (by decide) (by simp)
    case fin =>
      intro js w1 hall hC
      obtain ⟨es, c, rfl, hp⟩ := hC.whole (hall 0 (by decide)) (by intro l hl; refine hall l.1 ?_; simp at hl; rcases hl with rfl | rfl | rfl | rfl | rfl | rfl | rfl <;> simp)
      go_wp2
      go_ret
      exact ⟨rfl, (Below.refl _ _).drew.alloc (Nat.le_refl _) _⟩
end Go.Proofs.YtopcleljecdkkaaDoor
end
section
namespace Go.Proofs.YtopcleljecdkkaaDoor
set_option linter.unusedVariables false
set_option linter.unusedSimpArgs false
open Go.RowKit Kit
theorem flagIx_lt {p : Bool} {n : Int} {i : Nat} (h : flagIx p n = some i) : i < 7 := by
  unfold flagIx at h
  repeat' split at h
  all_goals simp at h <;> omega
theorem choiceIx_78 {p : Bool} {n : Int} {i : Nat} (h : choiceIx p n = some i) : i = 7 ∨ i = 8 := by
  unfold choiceIx at h
  repeat' split at h
  all_goals simp at h <;> omega
set_option maxHeartbeats 1000000 in
theorem set_flag (m : Md) (p : Bool) (n : Int) (on : Bool) (i : Nat) (w : World) (h : flagIx p n = some i) :
    Calls Tryd.prog 64 #[m.v, .bool p, .int .i64 n, .bool on] w fun e w' => e = .returned (.tuple #[(setFlag m i on).v, .bool true]) ∧ Below w.heap.size w w' := by
  have hi := flagIx_lt h
  have H := Lib.hid h
  clear h
  have HO := Mine.start w
  go_enter Tryd.func64, Tryd.ntmps64
  go_wp2_with (first
      | ((with_reducible refine gate ?_); (first
      | ((refine own_box HO rfl rfl rfl ?_); clear HO; intro gN wN hgN HO; (simp only [List.nil_append, List.cons_append] at HO); (try simp only [Act.put, List.setIfInBounds_toArray, List.set_cons_zero, List.set_cons_succ]))
      | ((refine own_alloc (T := 39) HO rfl rfl Tryd.zeroValue39 rfl ?_); clear HO; intro gN wN hgN HO; (simp only [List.nil_append, List.cons_append] at HO); (try simp only [Act.put, List.setIfInBounds_toArray, List.set_cons_zero, List.set_cons_succ]))
      | ((refine own_alloc (T := 3) HO rfl rfl Tryd.zeroValue3 rfl ?_); clear HO; intro gN wN hgN HO; (simp only [List.nil_append, List.cons_append] at HO); (try simp only [Act.put, List.setIfInBounds_toArray, List.set_cons_zero, List.set_cons_succ]))
      | ((refine own_alloc (T := 4) HO rfl rfl Tryd.zeroValue4 rfl ?_); clear HO; intro gN wN hgN HO; (simp only [List.nil_append, List.cons_append] at HO); (try simp only [Act.put, List.setIfInBounds_toArray, List.set_cons_zero, List.set_cons_succ]))
      | ((refine own_load (T := 39) HO rfl rfl rfl (by first | exact .head _ | exact .tail _ (.head _) | exact .tail _ (.tail _ (.head _)) | exact .tail _ (.tail _ (.tail _ (.head _))) | exact .tail _ (.tail _ (.tail _ (.tail _ (.head _)))) | exact .tail _ (.tail _ (.tail _ (.tail _ (.tail _ (.head _)))))) Tryd.isAgg39 Tryd.sizeOf39 (by repeat constructor) ?_); (try simp only [Act.put, List.setIfInBounds_toArray, List.set_cons_zero, List.set_cons_succ]))
      | ((refine own_load1 (T := 3) HO rfl rfl rfl (by first | exact .head _ | exact .tail _ (.head _) | exact .tail _ (.tail _ (.head _)) | exact .tail _ (.tail _ (.tail _ (.head _))) | exact .tail _ (.tail _ (.tail _ (.tail _ (.head _)))) | exact .tail _ (.tail _ (.tail _ (.tail _ (.tail _ (.head _)))))) Tryd.isAgg3 rfl ?_); (try simp only [Act.put, List.setIfInBounds_toArray, List.set_cons_zero, List.set_cons_succ]))
      | ((refine own_load1 (T := 4) HO rfl rfl rfl (by first | exact .head _ | exact .tail _ (.head _) | exact .tail _ (.tail _ (.head _)) | exact .tail _ (.tail _ (.tail _ (.head _))) | exact .tail _ (.tail _ (.tail _ (.tail _ (.head _)))) | exact .tail _ (.tail _ (.tail _ (.tail _ (.tail _ (.head _)))))) Tryd.isAgg4 rfl ?_); (try simp only [Act.put, List.setIfInBounds_toArray, List.set_cons_zero, List.set_cons_succ]))
      | ((refine own_store (T := 39) HO rfl rfl rfl rfl (by first | exact .here | exact .there (.here) | exact .there (.there (.here)) | exact .there (.there (.there (.here))) | exact .there (.there (.there (.there (.here)))) | exact .there (.there (.there (.there (.there (.here)))))) Tryd.sizeOf39 (by repeat constructor) rfl ?_); clear HO; intro wN HO; (try simp only [Act.put, List.setIfInBounds_toArray, List.set_cons_zero, List.set_cons_succ]))
      | ((refine own_store (T := 3) HO rfl rfl rfl rfl (by first | exact .here | exact .there (.here) | exact .there (.there (.here)) | exact .there (.there (.there (.here))) | exact .there (.there (.there (.there (.here)))) | exact .there (.there (.there (.there (.there (.here)))))) Tryd.sizeOf3 (by repeat constructor) rfl ?_); clear HO; intro wN HO; (try simp only [Act.put, List.setIfInBounds_toArray, List.set_cons_zero, List.set_cons_succ]))
      | ((refine own_store (T := 4) HO rfl rfl rfl rfl (by first | exact .here | exact .there (.here) | exact .there (.there (.here)) | exact .there (.there (.there (.here))) | exact .there (.there (.there (.there (.here)))) | exact .there (.there (.there (.there (.there (.here)))))) Tryd.sizeOf4 (by repeat constructor) rfl ?_); clear HO; intro wN HO; (try simp only [Act.put, List.setIfInBounds_toArray, List.set_cons_zero, List.set_cons_succ])))))
  refine (flag_calls _ p n _).mono ?_
  rintro e w1 ⟨rfl, hb⟩
  replace HO := HO.call hb
  clear hb
  rw [H.out]
  clear H
  obtain rfl | rfl | rfl | rfl | rfl | rfl | rfl : i = 0 ∨ i = 1 ∨ i = 2 ∨ i = 3 ∨ i = 4 ∨ i = 5 ∨ i = 6 := by omega
  all_goals
    simp only [ptrAt, Option.map_some]
    go_wp2_with (first
      | ((with_reducible refine gate ?_); (first
      | ((refine own_box HO rfl rfl rfl ?_); clear HO; intro gN wN hgN HO; (simp only [List.nil_append, List.cons_append] at HO); (try simp only [Act.put, List.setIfInBounds_toArray, List.set_cons_zero, List.set_cons_succ]))
      | ((refine own_alloc (T := 39) HO rfl rfl Tryd.zeroValue39 rfl ?_); clear HO; intro gN wN hgN HO; (simp only [List.nil_append, List.cons_append] at HO); (try simp only [Act.put, List.setIfInBounds_toArray, List.set_cons_zero, List.set_cons_succ]))
      | ((refine own_alloc (T := 3) HO rfl rfl Tryd.zeroValue3 rfl ?_); clear HO; intro gN wN hgN HO; (simp only [List.nil_append, List.cons_append] at HO); (try simp only [Act.put, List.setIfInBounds_toArray, List.set_cons_zero, List.set_cons_succ]))
      | ((refine own_alloc (T := 4) HO rfl rfl Tryd.zeroValue4 rfl ?_); clear HO; intro gN wN hgN HO; (simp only [List.nil_append, List.cons_append] at HO); (try simp only [Act.put, List.setIfInBounds_toArray, List.set_cons_zero, List.set_cons_succ]))
      | ((refine own_load (T := 39) HO rfl rfl rfl (by first | exact .head _ | exact .tail _ (.head _) | exact .tail _ (.tail _ (.head _)) | exact .tail _ (.tail _ (.tail _ (.head _))) | exact .tail _ (.tail _ (.tail _ (.tail _ (.head _)))) | exact .tail _ (.tail _ (.tail _ (.tail _ (.tail _ (.head _)))))) Tryd.isAgg39 Tryd.sizeOf39 (by repeat constructor) ?_); (try simp only [Act.put, List.setIfInBounds_toArray, List.set_cons_zero, List.set_cons_succ]))
      | ((refine own_load1 (T := 3) HO rfl rfl rfl (by first | exact .head _ | exact .tail _ (.head _) | exact .tail _ (.tail _ (.head _)) | exact .tail _ (.tail _ (.tail _ (.head _))) | exact .tail _ (.tail _ (.tail _ (.tail _ (.head _)))) | exact .tail _ (.tail _ (.tail _ (.tail _ (.tail _ (.head _)))))) Tryd.isAgg3 rfl ?_); (try simp only [Act.put, List.setIfInBounds_toArray, List.set_cons_zero, List.set_cons_succ]))
      | ((refine own_load1 (T := 4) HO rfl rfl rfl (by first | exact .head _ | exact .tail _ (.head _) | exact .tail _ (.tail _ (.head _)) | exact .tail _ (.tail _ (.tail _ (.head _))) | exact .tail _ (.tail _ (.tail _ (.tail _ (.head _)))) | exact .tail _ (.tail _ (.tail _ (.tail _ (.tail _ (.head _)))))) Tryd.isAgg4 rfl ?_); (try simp only [Act.put, List.setIfInBounds_toArray, List.set_cons_zero, List.set_cons_succ]))
      | ((refine own_store (T := 39) HO rfl rfl rfl rfl (by first | exact .here | exact .there (.here) | exact .there (.there (.here)) | exact .there (.there (.there (.here))) | exact .there (.there (.there (.there (.here)))) | exact .there (.there (.there (.there (.there (.here)))))) Tryd.sizeOf39 (by repeat constructor) rfl ?_); clear HO; intro wN HO; (try simp only [Act.put, List.setIfInBounds_toArray, List.set_cons_zero, List.set_cons_succ]))
      | ((refine own_store (T := 3) HO rfl rfl rfl rfl (by first | exact .here | exact .there (.here) | exact .there (.there (.here)) | exact .there (.there (.there (.here))) | exact .there (.there (.there (.there (.here)))) | exact .there (.there (.there (.there (.there (.here)))))) Tryd.sizeOf3 (by repeat constructor) rfl ?_); clear HO; intro wN HO; (try simp only [Act.put, List.setIfInBounds_toArray, List.set_cons_zero, List.set_cons_succ]))
      | ((refine own_store (T := 4) HO rfl rfl rfl rfl (by first | exact .here | exact .there (.here) | exact .there (.there (.here)) | exact .there (.there (.there (.here))) | exact .there (.there (.there (.there (.here)))) | exact .there (.there (.there (.there (.there (.here)))))) Tryd.sizeOf4 (by repeat constructor) rfl ?_); clear HO; intro wN HO; (try simp only [Act.put, List.setIfInBounds_toArray, List.set_cons_zero, List.set_cons_succ])))))
    refine bodyPost_ret (own_results2 HO Tryd.results64 rfl (by first | exact .head _ | exact .tail _ (.head _) | exact .tail _ (.tail _ (.head _)) | exact .tail _ (.tail _ (.tail _ (.head _))) | exact .tail _ (.tail _ (.tail _ (.tail _ (.head _)))) | exact .tail _ (.tail _ (.tail _ (.tail _ (.tail _ (.head _)))))) Tryd.isAgg39 Tryd.sizeOf39 (by repeat constructor)) rfl ⟨rfl, HO.below⟩
set_option maxHeartbeats 1000000 in
theorem set_choice (m : Md) (p : Bool) (n : Int) (on : Bool) (i : Nat) (w : World) (h0 : flagIx p n = none) (h : choiceIx p n = some i) :
    Calls Tryd.prog 64 #[m.v, .bool p, .int .i64 n, .bool on] w fun e w' => e = .returned (.tuple #[(setChoice m i n on).v, .bool true]) ∧ Below w.heap.size w w' := by
  have hi := choiceIx_78 h
  have H := Lib.hid h
  have H0 := Lib.hid h0
  clear h h0
  have HO := Mine.start w
  go_enter Tryd.func64, Tryd.ntmps64
  go_wp2_with (first
      | ((with_reducible refine gate ?_); (first
      | ((refine own_box HO rfl rfl rfl ?_); clear HO; intro gN wN hgN HO; (simp only [List.nil_append, List.cons_append] at HO); (try simp only [Act.put, List.setIfInBounds_toArray, List.set_cons_zero, List.set_cons_succ]))
      | ((refine own_alloc (T := 39) HO rfl rfl Tryd.zeroValue39 rfl ?_); clear HO; intro gN wN hgN HO; (simp only [List.nil_append, List.cons_append] at HO); (try simp only [Act.put, List.setIfInBounds_toArray, List.set_cons_zero, List.set_cons_succ]))
      | ((refine own_alloc (T := 3) HO rfl rfl Tryd.zeroValue3 rfl ?_); clear HO; intro gN wN hgN HO; (simp only [List.nil_append, List.cons_append] at HO); (try simp only [Act.put, List.setIfInBounds_toArray, List.set_cons_zero, List.set_cons_succ]))
      | ((refine own_alloc (T := 4) HO rfl rfl Tryd.zeroValue4 rfl ?_); clear HO; intro gN wN hgN HO; (simp only [List.nil_append, List.cons_append] at HO); (try simp only [Act.put, List.setIfInBounds_toArray, List.set_cons_zero, List.set_cons_succ]))
      | ((refine own_load (T := 39) HO rfl rfl rfl (by first | exact .head _ | exact .tail _ (.head _) | exact .tail _ (.tail _ (.head _)) | exact .tail _ (.tail _ (.tail _ (.head _))) | exact .tail _ (.tail _ (.tail _ (.tail _ (.head _)))) | exact .tail _ (.tail _ (.tail _ (.tail _ (.tail _ (.head _)))))) Tryd.isAgg39 Tryd.sizeOf39 (by repeat constructor) ?_); (try simp only [Act.put, List.setIfInBounds_toArray, List.set_cons_zero, List.set_cons_succ]))
      | ((refine own_load1 (T := 3) HO rfl rfl rfl (by first | exact .head _ | exact .tail _ (.head _) | exact .tail _ (.tail _ (.head _)) | exact .tail _ (.tail _ (.tail _ (.head _))) | exact .tail _ (.tail _ (.tail _ (.tail _ (.head _)))) | exact .tail _ (.tail _ (.tail _ (.tail _ (.tail _ (.head _)))))) Tryd.isAgg3 rfl ?_); (try simp only [Act.put, List.setIfInBounds_toArray, List.set_cons_zero, List.set_cons_succ]))
      | ((refine own_load1 (T := 4) HO rfl rfl rfl (by first | exact .head _ | exact .tail _ (.head _) | exact .tail _ (.tail _ (.head _)) | exact .tail _ (.tail _ (.tail _ (.head _))) | exact .tail _ (.tail _ (.tail _ (.tail _ (.head _)))) | exact .tail _ (.tail _ (.tail _ (.tail _ (.tail _ (.head _)))))) Tryd.isAgg4 rfl ?_); (try simp only [Act.put, List.setIfInBounds_toArray, List.set_cons_zero, List.set_cons_succ]))
      | ((refine own_store (T := 39) HO rfl rfl rfl rfl (by first | exact .here | exact .there (.here) | exact .there (.there (.here)) | exact .there (.there (.there (.here))) | exact .there (.there (.there (.there (.here)))) | exact .there (.there (.there (.there (.there (.here)))))) Tryd.sizeOf39 (by repeat constructor) rfl ?_); clear HO; intro wN HO; (try simp only [Act.put, List.setIfInBounds_toArray, List.set_cons_zero, List.set_cons_succ]))
      | ((refine own_store (T := 3) HO rfl rfl rfl rfl (by first | exact .here | exact .there (.here) | exact .there (.there (.here)) | exact .there (.there (.there (.here))) | exact .there (.there (.there (.there (.here)))) | exact .there (.there (.there (.there (.there (.here)))))) Tryd.sizeOf3 (by repeat constructor) rfl ?_); clear HO; intro wN HO; (try simp only [Act.put, List.setIfInBounds_toArray, List.set_cons_zero, List.set_cons_succ]))
      | ((refine own_store (T := 4) HO rfl rfl rfl rfl (by first | exact .here | exact .there (.here) | exact .there (.there (.here)) | exact .there (.there (.there (.here))) | exact .there (.there (.there (.there (.here)))) | exact .there (.there (.there (.there (.there (.here)))))) Tryd.sizeOf4 (by repeat constructor) rfl ?_); clear HO; intro wN HO; (try simp only [Act.put, List.setIfInBounds_toArray, List.set_cons_zero, List.set_cons_succ])))))
  refine (flag_calls _ p n _).mono ?_
  rintro e w1 ⟨rfl, hb⟩
  replace HO := HO.call hb
  clear hb
  rw [H0.out]
  simp only [ptrAt, Option.map_none]
  go_wp2_with (first
      | ((with_reducible refine gate ?_); (first
      | ((refine own_box HO rfl rfl rfl ?_); clear HO; intro gN wN hgN HO; (simp only [List.nil_append, List.cons_append] at HO); (try simp only [Act.put, List.setIfInBounds_toArray, List.set_cons_zero, List.set_cons_succ]))
      | ((refine own_alloc (T := 39) HO rfl rfl Tryd.zeroValue39 rfl ?_); clear HO; intro gN wN hgN HO; (simp only [List.nil_append, List.cons_append] at HO); (try simp only [Act.put, List.setIfInBounds_toArray, List.set_cons_zero, List.set_cons_succ]))
      | ((refine own_alloc (T := 3) HO rfl rfl Tryd.zeroValue3 rfl ?_); clear HO; intro gN wN hgN HO; (simp only [List.nil_append, List.cons_append] at HO); (try simp only [Act.put, List.setIfInBounds_toArray, List.set_cons_zero, List.set_cons_succ]))
      | ((refine own_alloc (T := 4) HO rfl rfl Tryd.zeroValue4 rfl ?_); clear HO; intro gN wN hgN HO; (simp only [List.nil_append, List.cons_append] at HO); (try simp only [Act.put, List.setIfInBounds_toArray, List.set_cons_zero, List.set_cons_succ]))
      | ((refine own_load (T := 39) HO rfl rfl rfl (by first | exact .head _ | exact .tail _ (.head _) | exact .tail _ (.tail _ (.head _)) | exact .tail _ (.tail _ (.tail _ (.head _))) | exact .tail _ (.tail _ (.tail _ (.tail _ (.head _)))) | exact .tail _ (.tail _ (.tail _ (.tail _ (.tail _ (.head _)))))) Tryd.isAgg39 Tryd.sizeOf39 (by repeat constructor) ?_); (try simp only [Act.put, List.setIfInBounds_toArray, List.set_cons_zero, List.set_cons_succ]))
      | ((refine own_load1 (T := 3) HO rfl rfl rfl (by first | exact .head _ | exact .tail _ (.head _) | exact .tail _ (.tail _ (.head _)) | exact .tail _ (.tail _ (.tail _ (.head _))) | exact .tail _ (.tail _ (.tail _ (.tail _ (.head _)))) | exact .tail _ (.tail _ (.tail _ (.tail _ (.tail _ (.head _)))))) Tryd.isAgg3 rfl ?_); (try simp only [Act.put, List.setIfInBounds_toArray, List.set_cons_zero, List.set_cons_succ]))
      | ((refine own_load1 (T := 4) HO rfl rfl rfl (by first | exact .head _ | exact .tail _ (.head _) | exact .tail _ (.tail _ (.head _)) | exact .tail _ (.tail _ (.tail _ (.head _))) | exact .tail _ (.tail _ (.tail _ (.tail _ (.head _)))) | exact .tail _ (.tail _ (.tail _ (.tail _ (.tail _ (.head _)))))) Tryd.isAgg4 rfl ?_); (try simp only [Act.put, List.setIfInBounds_toArray, List.set_cons_zero, List.set_cons_succ]))
      | ((refine own_store (T := 39) HO rfl rfl rfl rfl (by first | exact .here | exact .there (.here) | exact .there (.there (.here)) | exact .there (.there (.there (.here))) | exact .there (.there (.there (.there (.here)))) | exact .there (.there (.there (.there (.there (.here)))))) Tryd.sizeOf39 (by repeat constructor) rfl ?_); clear HO; intro wN HO; (try simp only [Act.put, List.setIfInBounds_toArray, List.set_cons_zero, List.set_cons_succ]))
      | ((refine own_store (T := 3) HO rfl rfl rfl rfl (by first | exact .here | exact .there (.here) | exact .there (.there (.here)) | exact .there (.there (.there (.here))) | exact .there (.there (.there (.there (.here)))) | exact .there (.there (.there (.there (.there (.here)))))) Tryd.sizeOf3 (by repeat constructor) rfl ?_); clear HO; intro wN HO; (try simp only [Act.put, List.setIfInBounds_toArray, List.set_cons_zero, List.set_cons_succ]))
      | ((refine own_store (T := 4) HO rfl rfl rfl rfl (by first | exact .here | exact .there (.here) | exact .there (.there (.here)) | exact .there (.there (.there (.here))) | exact .there (.there (.there (.there (.here)))) | exact .there (.there (.there (.there (.there (.here)))))) Tryd.sizeOf4 (by repeat constructor) rfl ?_); clear HO; intro wN HO; (try simp only [Act.put, List.setIfInBounds_toArray, List.set_cons_zero, List.set_cons_succ])))))
  refine (choice_calls _ p n _).mono ?_
  rintro e w1 ⟨rfl, hb⟩
  replace HO := HO.call hb
  clear hb
  rw [H.out]
  clear H H0
  have E1 : ∀ x : Int, oneM x n true = n := fun x => rfl
  have E2 : ∀ x : Int, x = n → oneM x n false = 0 := fun x hx => by simp [oneM, hx]
  have E3 : ∀ x : Int, x ≠ n → oneM x n false = x := fun x hx => by simp [oneM, hx]
  have HE1 := Lib.hid E1
  have HE2 := Lib.hid E2
  have HE3 := Lib.hid E3
  clear E1 E2 E3
  rcases hi with rfl | rfl
  · simp only [ptrAt, Option.map_some]
    cases on
    · by_cases hx : m.mouse = n
      · have hb1 : (m.mouse == n) = true := beq_iff_eq.2 hx
        have HX := Lib.hid hx
        clear hx
        go_wp2_with (first
      | ((with_reducible refine gate ?_); (first
      | ((refine own_box HO rfl rfl rfl ?_); clear HO; intro gN wN hgN HO; (simp only [List.nil_append, List.cons_append] at HO); (try simp only [Act.put, List.setIfInBounds_toArray, List.set_cons_zero, List.set_cons_succ]))
      | ((refine own_alloc (T := 39) HO rfl rfl Tryd.zeroValue39 rfl ?_); clear HO; intro gN wN hgN HO; (simp only [List.nil_append, List.cons_append] at HO); (try simp only [Act.put, List.setIfInBounds_toArray, List.set_cons_zero, List.set_cons_succ]))
      | ((refine own_alloc (T := 3) HO rfl rfl Tryd.zeroValue3 rfl ?_); clear HO; intro gN wN hgN HO; (simp only [List.nil_append, List.cons_append] at HO); (try simp only [Act.put, List.setIfInBounds_toArray, List.set_cons_zero, List.set_cons_succ]))
      | ((refine own_alloc (T := 4) HO rfl rfl Tryd.zeroValue4 rfl ?_); clear HO; intro gN wN hgN HO; (simp only [List.nil_append, List.cons_append] at HO); (try simp only [Act.put, List.setIfInBounds_toArray, List.set_cons_zero, List.set_cons_succ]))
      | ((refine own_load (T := 39) HO rfl rfl rfl (by first | exact .head _ | exact .tail _ (.head _) | exact .tail _ (.tail _ (.head _)) | exact .tail _ (.tail _ (.tail _ (.head _))) | exact .tail _ (.tail _ (.tail _ (.tail _ (.head _)))) | exact .tail _ (.tail _ (.tail _ (.tail _ (.tail _ (.head _)))))) Tryd.isAgg39 Tryd.sizeOf39 (by repeat constructor) ?_); (try simp only [Act.put, List.setIfInBounds_toArray, List.set_cons_zero, List.set_cons_succ]))
      | ((refine own_load1 (T := 3) HO rfl rfl rfl (by first | exact .head _ | exact .tail _ (.head _) | exact .tail _ (.tail _ (.head _)) | exact .tail _ (.tail _ (.tail _ (.head _))) | exact .tail _ (.tail _ (.tail _ (.tail _ (.head _)))) | exact .tail _ (.tail _ (.tail _ (.tail _ (.tail _ (.head _)))))) Tryd.isAgg3 rfl ?_); (try simp only [Act.put, List.setIfInBounds_toArray, List.set_cons_zero, List.set_cons_succ]))
      | ((refine own_load1 (T := 4) HO rfl rfl rfl (by first | exact .head _ | exact .tail _ (.head _) | exact .tail _ (.tail _ (.head _)) | exact .tail _ (.tail _ (.tail _ (.head _))) | exact .tail _ (.tail _ (.tail _ (.tail _ (.head _)))) | exact .tail _ (.tail _ (.tail _ (.tail _ (.tail _ (.head _)))))) Tryd.isAgg4 rfl ?_); (try simp only [Act.put, List.setIfInBounds_toArray, List.set_cons_zero, List.set_cons_succ]))
      | ((refine own_store (T := 39) HO rfl rfl rfl rfl (by first | exact .here | exact .there (.here) | exact .there (.there (.here)) | exact .there (.there (.there (.here))) | exact .there (.there (.there (.there (.here)))) | exact .there (.there (.there (.there (.there (.here)))))) Tryd.sizeOf39 (by repeat constructor) rfl ?_); clear HO; intro wN HO; (try simp only [Act.put, List.setIfInBounds_toArray, List.set_cons_zero, List.set_cons_succ]))
      | ((refine own_store (T := 3) HO rfl rfl rfl rfl (by first | exact .here | exact .there (.here) | exact .there (.there (.here)) | exact .there (.there (.there (.here))) | exact .there (.there (.there (.there (.here)))) | exact .there (.there (.there (.there (.there (.here)))))) Tryd.sizeOf3 (by repeat constructor) rfl ?_); clear HO; intro wN HO; (try simp only [Act.put, List.setIfInBounds_toArray, List.set_cons_zero, List.set_cons_succ]))
      | ((refine own_store (T := 4) HO rfl rfl rfl rfl (by first | exact .here | exact .there (.here) | exact .there (.there (.here)) | exact .there (.there (.there (.here))) | exact .there (.there (.there (.there (.here)))) | exact .there (.there (.there (.there (.there (.here)))))) Tryd.sizeOf4 (by repeat constructor) rfl ?_); clear HO; intro wN HO; (try simp only [Act.put, List.setIfInBounds_toArray, List.set_cons_zero, List.set_cons_succ])))))
        refine bodyPost_ret (own_results2 HO Tryd.results64 rfl (by first | exact .head _ | exact .tail _ (.head _) | exact .tail _ (.tail _ (.head _)) | exact .tail _ (.tail _ (.tail _ (.head _))) | exact .tail _ (.tail _ (.tail _ (.tail _ (.head _)))) | exact .tail _ (.tail _ (.tail _ (.tail _ (.tail _ (.head _)))))) Tryd.isAgg39 Tryd.sizeOf39 (by repeat constructor)) rfl ⟨?_, HO.below⟩
        simp only [setChoice, Md.v, HE2.out _ HX.out]
        rfl
      · have hb1 : (m.mouse == n) = false := beq_eq_false_iff_ne.2 hx
        have HX := Lib.hid hx
        clear hx
        go_wp2_with (first
      | ((with_reducible refine gate ?_); (first
      | ((refine own_box HO rfl rfl rfl ?_); clear HO; intro gN wN hgN HO; (simp only [List.nil_append, List.cons_append] at HO); (try simp only [Act.put, List.setIfInBounds_toArray, List.set_cons_zero, List.set_cons_succ]))
      | ((refine own_alloc (T := 39) HO rfl rfl Tryd.zeroValue39 rfl ?_); clear HO; intro gN wN hgN HO; (simp only [List.nil_append, List.cons_append] at HO); (try simp only [Act.put, List.setIfInBounds_toArray, List.set_cons_zero, List.set_cons_succ]))
      | ((refine own_alloc (T := 3) HO rfl rfl Tryd.zeroValue3 rfl ?_); clear HO; intro gN wN hgN HO; (simp only [List.nil_append, List.cons_append] at HO); (try simp only [Act.put, List.setIfInBounds_toArray, List.set_cons_zero, List.set_cons_succ]))
      | ((refine own_alloc (T := 4) HO rfl rfl Tryd.zeroValue4 rfl ?_); clear HO; intro gN wN hgN HO; (simp only [List.nil_append, List.cons_append] at HO); (try simp only [Act.put, List.setIfInBounds_toArray, List.set_cons_zero, List.set_cons_succ]))
      | ((refine own_load (T := 39) HO rfl rfl rfl (by first | exact .head _ | exact .tail _ (.head _) | exact .tail _ (.tail _ (.head _)) | exact .tail _ (.tail _ (.tail _ (.head _))) | exact .tail _ (.tail _ (.tail _ (.tail _ (.head _)))) | exact .tail _ (.tail _ (.tail _ (.tail _ (.tail _ (.head _)))))) Tryd.isAgg39 Tryd.sizeOf39 (by repeat constructor) ?_); (try simp only [Act.put, List.setIfInBounds_toArray, List.set_cons_zero, List.set_cons_succ]))
      | ((refine own_load1 (T := 3) HO rfl rfl rfl (by first | exact .head _ | exact .tail _ (.head _) | exact .tail _ (.tail _ (.head _)) | exact .tail _ (.tail _ (.tail _ (.head _))) | exact .tail _ (.tail _ (.tail _ (.tail _ (.head _)))) | exact .tail _ (.tail _ (.tail _ (.tail _ (.tail _ (.head _)))))) Tryd.isAgg3 rfl ?_); (try simp only [Act.put, List.setIfInBounds_toArray, List.set_cons_zero, List.set_cons_succ]))
      | ((refine own_load1 (T := 4) HO rfl rfl rfl (by first | exact .head _ | exact .tail _ (.head _) | exact .tail _ (.tail _ (.head _)) | exact .tail _ (.tail _ (.tail _ (.head _))) | exact .tail _ (.tail _ (.tail _ (.tail _ (.head _)))) | exact .tail _ (.tail _ (.tail _ (.tail _ (.tail _ (.head _)))))) Tryd.isAgg4 rfl ?_); (try simp only [Act.put, List.setIfInBounds_toArray, List.set_cons_zero, List.set_cons_succ]))
      | ((refine own_store (T := 39) HO rfl rfl rfl rfl (by first | exact .here | exact .there (.here) | exact .there (.there (.here)) | exact .there (.there (.there (.here))) | exact .there (.there (.there (.there (.here)))) | exact .there (.there (.there (.there (.there (.here)))))) Tryd.sizeOf39 (by repeat constructor) rfl ?_); clear HO; intro wN HO; (try simp only [Act.put, List.setIfInBounds_toArray, List.set_cons_zero, List.set_cons_succ]))
      | ((refine own_store (T := 3) HO rfl rfl rfl rfl (by first | exact .here | exact .there (.here) | exact .there (.there (.here)) | exact .there (.there (.there (.here))) | exact .there (.there (.there (.there (.here)))) | exact .there (.there (.there (.there (.there (.here)))))) Tryd.sizeOf3 (by repeat constructor) rfl ?_); clear HO; intro wN HO; (try simp only [Act.put, List.setIfInBounds_toArray, List.set_cons_zero, List.set_cons_succ]))
      | ((refine own_store (T := 4) HO rfl rfl rfl rfl (by first | exact .here | exact .there (.here) | exact .there (.there (.here)) | exact .there (.there (.there (.here))) | exact .there (.there (.there (.there (.here)))) | exact .there (.there (.there (.there (.there (.here)))))) Tryd.sizeOf4 (by repeat constructor) rfl ?_); clear HO; intro wN HO; (try simp only [Act.put, List.setIfInBounds_toArray, List.set_cons_zero, List.set_cons_succ])))))
        refine bodyPost_ret (own_results2 HO Tryd.results64 rfl (by first | exact .head _ | exact .tail _ (.head _) | exact .tail _ (.tail _ (.head _)) | exact .tail _ (.tail _ (.tail _ (.head _))) | exact .tail _ (.tail _ (.tail _ (.tail _ (.head _)))) | exact .tail _ (.tail _ (.tail _ (.tail _ (.tail _ (.head _)))))) Tryd.isAgg39 Tryd.sizeOf39 (by repeat constructor)) rfl ⟨?_, HO.below⟩
        simp only [setChoice, Md.v, HE3.out _ HX.out]
        rfl
    · go_wp2_with (first
      | ((with_reducible refine gate ?_); (first
      | ((refine own_box HO rfl rfl rfl ?_); clear HO; intro gN wN hgN HO; (simp only [List.nil_append, List.cons_append] at HO); (try simp only [Act.put, List.setIfInBounds_toArray, List.set_cons_zero, List.set_cons_succ]))
      | ((refine own_alloc (T := 39) HO rfl rfl Tryd.zeroValue39 rfl ?_); clear HO; intro gN wN hgN HO; (simp only [List.nil_append, List.cons_append] at HO); (try simp only [Act.put, List.setIfInBounds_toArray, List.set_cons_zero, List.set_cons_succ]))
      | ((refine own_alloc (T := 3) HO rfl rfl Tryd.zeroValue3 rfl ?_); clear HO; intro gN wN hgN HO; (simp only [List.nil_append, List.cons_append] at HO); (try simp only [Act.put, List.setIfInBounds_toArray, List.set_cons_zero, List.set_cons_succ]))
      | ((refine own_alloc (T := 4) HO rfl rfl Tryd.zeroValue4 rfl ?_); clear HO; intro gN wN hgN HO; (simp only [List.nil_append, List.cons_append] at HO); (try simp only [Act.put, List.setIfInBounds_toArray, List.set_cons_zero, List.set_cons_succ]))
      | ((refine own_load (T := 39) HO rfl rfl rfl (by first | exact .head _ | exact .tail _ (.head _) | exact .tail _ (.tail _ (.head _)) | exact .tail _ (.tail _ (.tail _ (.head _))) | exact .tail _ (.tail _ (.tail _ (.tail _ (.head _)))) | exact .tail _ (.tail _ (.tail _ (.tail _ (.tail _ (.head _)))))) Tryd.isAgg39 Tryd.sizeOf39 (by repeat constructor) ?_); (try simp only [Act.put, List.setIfInBounds_toArray, List.set_cons_zero, List.set_cons_succ]))
      | ((refine own_load1 (T := 3) HO rfl rfl rfl (by first | exact .head _ | exact .tail _ (.head _) | exact .tail _ (.tail _ (.head _)) | exact .tail _ (.tail _ (.tail _ (.head _))) | exact .tail _ (.tail _ (.tail _ (.tail _ (.head _)))) | exact .tail _ (.tail _ (.tail _ (.tail _ (.tail _ (.head _)))))) Tryd.isAgg3 rfl ?_); (try simp only [Act.put, List.setIfInBounds_toArray, List.set_cons_zero, List.set_cons_succ]))
      | ((refine own_load1 (T := 4) HO rfl rfl rfl (by first | exact .head _ | exact .tail _ (.head _) | exact .tail _ (.tail _ (.head _)) | exact .tail _ (.tail _ (.tail _ (.head _))) | exact .tail _ (.tail _ (.tail _ (.tail _ (.head _)))) | exact .tail _ (.tail _ (.tail _ (.tail _ (.tail _ (.head _)))))) Tryd.isAgg4 rfl ?_); (try simp only [Act.put, List.setIfInBounds_toArray, List.set_cons_zero, List.set_cons_succ]))
      | ((refine own_store (T := 39) HO rfl rfl rfl rfl (by first | exact .here | exact .there (.here) | exact .there (.there (.here)) | exact .there (.there (.there (.here))) | exact .there (.there (.there (.there (.here)))) | exact .there (.there (.there (.there (.there (.here)))))) Tryd.sizeOf39 (by repeat constructor) rfl ?_); clear HO; intro wN HO; (try simp only [Act.put, List.setIfInBounds_toArray, List.set_cons_zero, List.set_cons_succ]))
      | ((refine own_store (T := 3) HO rfl rfl rfl rfl (by first | exact .here | exact .there (.here) | exact .there (.there (.here)) | exact .there (.there (.there (.here))) | exact .there (.there (.there (.there (.here)))) | exact .there (.there (.there (.there (.there (.here)))))) Tryd.sizeOf3 (by repeat constructor) rfl ?_); clear HO; intro wN HO; (try simp only [Act.put, List.setIfInBounds_toArray, List.set_cons_zero, List.set_cons_succ]))
      | ((refine own_store (T := 4) HO rfl rfl rfl rfl (by first | exact .here | exact .there (.here) | exact .there (.there (.here)) | exact .there (.there (.there (.here))) | exact .there (.there (.there (.there (.here)))) | exact .there (.there (.there (.there (.there (.here)))))) Tryd.sizeOf4 (by repeat constructor) rfl ?_); clear HO; intro wN HO; (try simp only [Act.put, List.setIfInBounds_toArray, List.set_cons_zero, List.set_cons_succ])))))
      refine bodyPost_ret (own_results2 HO Tryd.results64 rfl (by first | exact .head _ | exact .tail _ (.head _) | exact .tail _ (.tail _ (.head _)) | exact .tail _ (.tail _ (.tail _ (.head _))) | exact .tail _ (.tail _ (.tail _ (.tail _ (.head _)))) | exact .tail _ (.tail _ (.tail _ (.tail _ (.tail _ (.head _)))))) Tryd.isAgg39 Tryd.sizeOf39 (by repeat constructor)) rfl ⟨rfl, HO.below⟩
  · simp only [ptrAt, Option.map_some]
    cases on
    · by_cases hx : m.coding = n
      · have hb1 : (m.coding == n) = true := beq_iff_eq.2 hx
        have HX := Lib.hid hx
        clear hx
        go_wp2_with (first
      | ((with_reducible refine gate ?_); (first
      | ((refine own_box HO rfl rfl rfl ?_); clear HO; intro gN wN hgN HO; (simp only [List.nil_append, List.cons_append] at HO); (try simp only [Act.put, List.setIfInBounds_toArray, List.set_cons_zero, List.set_cons_succ]))
      | ((refine own_alloc (T := 39) HO rfl rfl Tryd.zeroValue39 rfl ?_); clear HO; intro gN wN hgN HO; (simp only [List.nil_append, List.cons_append] at HO); (try simp only [Act.put, List.setIfInBounds_toArray, List.set_cons_zero, List.set_cons_succ]))
      | ((refine own_alloc (T := 3) HO rfl rfl Tryd.zeroValue3 rfl ?_); clear HO; intro gN wN hgN HO; (simp only [List.nil_append, List.cons_append] at HO); (try simp only [Act.put, List.setIfInBounds_toArray, List.set_cons_zero, List.set_cons_succ]))
      | ((refine own_alloc (T := 4) HO rfl rfl Tryd.zeroValue4 rfl ?_); clear HO; intro gN wN hgN HO; (simp only [List.nil_append, List.cons_append] at HO); (try simp only [Act.put, List.setIfInBounds_toArray, List.set_cons_zero, List.set_cons_succ]))
      | ((refine own_load (T := 39) HO rfl rfl rfl (by first | exact .head _ | exact .tail _ (.head _) | exact .tail _ (.tail _ (.head _)) | exact .tail _ (.tail _ (.tail _ (.head _))) | exact .tail _ (.tail _ (.tail _ (.tail _ (.head _)))) | exact .tail _ (.tail _ (.tail _ (.tail _ (.tail _ (.head _)))))) Tryd.isAgg39 Tryd.sizeOf39 (by repeat constructor) ?_); (try simp only [Act.put, List.setIfInBounds_toArray, List.set_cons_zero, List.set_cons_succ]))
      | ((refine own_load1 (T := 3) HO rfl rfl rfl (by first | exact .head _ | exact .tail _ (.head _) | exact .tail _ (.tail _ (.head _)) | exact .tail _ (.tail _ (.tail _ (.head _))) | exact .tail _ (.tail _ (.tail _ (.tail _ (.head _)))) | exact .tail _ (.tail _ (.tail _ (.tail _ (.tail _ (.head _)))))) Tryd.isAgg3 rfl ?_); (try simp only [Act.put, List.setIfInBounds_toArray, List.set_cons_zero, List.set_cons_succ]))
      | ((refine own_load1 (T := 4) HO rfl rfl rfl (by first | exact .head _ | exact .tail _ (.head _) | exact .tail _ (.tail _ (.head _)) | exact .tail _ (.tail _ (.tail _ (.head _))) | exact .tail _ (.tail _ (.tail _ (.tail _ (.head _)))) | exact .tail _ (.tail _ (.tail _ (.tail _ (.tail _ (.head _)))))) Tryd.isAgg4 rfl ?_); (try simp only [Act.put, List.setIfInBounds_toArray, List.set_cons_zero, List.set_cons_succ]))
      | ((refine own_store (T := 39) HO rfl rfl rfl rfl (by first | exact .here | exact .there (.here) | exact .there (.there (.here)) | exact .there (.there (.there (.here))) | exact .there (.there (.there (.there (.here)))) | exact .there (.there (.there (.there (.there (.here)))))) Tryd.sizeOf39 (by repeat constructor) rfl ?_); clear HO; intro wN HO; (try simp only [Act.put, List.setIfInBounds_toArray, List.set_cons_zero, List.set_cons_succ]))
      | ((refine own_store (T := 3) HO rfl rfl rfl rfl (by first | exact .here | exact .there (.here) | exact .there (.there (.here)) | exact .there (.there (.there (.here))) | exact .there (.there (.there (.there (.here)))) | exact .there (.there (.there (.there (.there (.here)))))) Tryd.sizeOf3 (by repeat constructor) rfl ?_); clear HO; intro wN HO; (try simp only [Act.put, List.setIfInBounds_toArray, List.set_cons_zero, List.set_cons_succ]))
      | ((refine own_store (T := 4) HO rfl rfl rfl rfl (by first | exact .here | exact .there (.here) | exact .there (.there (.here)) | exact .there (.there (.there (.here))) | exact .there (.there (.there (.there (.here)))) | exact .there (.there (.there (.there (.there (.here)))))) Tryd.sizeOf4 (by repeat constructor) rfl ?_); clear HO; intro wN HO; (try simp only [Act.put, List.setIfInBounds_toArray, List.set_cons_zero, List.set_cons_succ])))))
        refine bodyPost_ret (own_results2 HO Tryd.results64 rfl (by first | exact .head _ | exact .tail _ (.head _) | exact .tail _ (.tail _ (.head _)) | exact .tail _ (.tail _ (.tail _ (.head _))) | exact .tail _ (.tail _ (.tail _ (.tail _ (.head _)))) | exact .tail _ (.tail _ (.tail _ (.tail _ (.tail _ (.head _)))))) Tryd.isAgg39 Tryd.sizeOf39 (by repeat constructor)) rfl ⟨?_, HO.below⟩
        simp only [setChoice, Md.v, HE2.out _ HX.out]
        rfl
      · have hb1 : (m.coding == n) = false := beq_eq_false_iff_ne.2 hx
        have HX := Lib.hid hx
        clear hx
        go_wp2_with (first
      | ((with_reducible refine gate ?_); (first
      | ((refine own_box HO rfl rfl rfl ?_); clear HO; intro gN wN hgN HO; (simp only [List.nil_append, List.cons_append] at HO); (try simp only [Act.put, List.setIfInBounds_toArray, List.set_cons_zero, List.set_cons_succ]))
      | ((refine own_alloc (T := 39) HO rfl rfl Tryd.zeroValue39 rfl ?_); clear HO; intro gN wN hgN HO; (simp only [List.nil_append, List.cons_append] at HO); (try simp only [Act.put, List.setIfInBounds_toArray, List.set_cons_zero, List.set_cons_succ]))
      | ((refine own_alloc (T := 3) HO rfl rfl Tryd.zeroValue3 rfl ?_); clear HO; intro gN wN hgN HO; (simp only [List.nil_append, List.cons_append] at HO); (try simp only [Act.put, List.setIfInBounds_toArray, List.set_cons_zero, List.set_cons_succ]))
      | ((refine own_alloc (T := 4) HO rfl rfl Tryd.zeroValue4 rfl ?_); clear HO; intro gN wN hgN HO; (simp only [List.nil_append, List.cons_append] at HO); (try simp only [Act.put, List.setIfInBounds_toArray, List.set_cons_zero, List.set_cons_succ]))
      | ((refine own_load (T := 39) HO rfl rfl rfl (by first | exact .head _ | exact .tail _ (.head _) | exact .tail _ (.tail _ (.head _)) | exact .tail _ (.tail _ (.tail _ (.head _))) | exact .tail _ (.tail _ (.tail _ (.tail _ (.head _)))) | exact .tail _ (.tail _ (.tail _ (.tail _ (.tail _ (.head _)))))) Tryd.isAgg39 Tryd.sizeOf39 (by repeat constructor) ?_); (try simp only [Act.put, List.setIfInBounds_toArray, List.set_cons_zero, List.set_cons_succ]))
      | ((refine own_load1 (T := 3) HO rfl rfl rfl (by first | exact .head _ | exact .tail _ (.head _) | exact .tail _ (.tail _ (.head _)) | exact .tail _ (.tail _ (.tail _ (.head _))) | exact .tail _ (.tail _ (.tail _ (.tail _ (.head _)))) | exact .tail _ (.tail _ (.tail _ (.tail _ (.tail _ (.head _)))))) Tryd.isAgg3 rfl ?_); (try simp only [Act.put, List.setIfInBounds_toArray, List.set_cons_zero, List.set_cons_succ]))
      | ((refine own_load1 (T := 4) HO rfl rfl rfl (by first | exact .head _ | exact .tail _ (.head _) | exact .tail _ (.tail _ (.head _)) | exact .tail _ (.tail _ (.tail _ (.head _))) | exact .tail _ (.tail _ (.tail _ (.tail _ (.head _)))) | exact .tail _ (.tail _ (.tail _ (.tail _ (.tail _ (.head _)))))) Tryd.isAgg4 rfl ?_); (try simp only [Act.put, List.setIfInBounds_toArray, List.set_cons_zero, List.set_cons_succ]))
      | ((refine own_store (T := 39) HO rfl rfl rfl rfl (by first | exact .here | exact .there (.here) | exact .there (.there (.here)) | exact .there (.there (.there (.here))) | exact .there (.there (.there (.there (.here)))) | exact .there (.there (.there (.there (.there (.here)))))) Tryd.sizeOf39 (by repeat constructor) rfl ?_); clear HO; intro wN HO; (try simp only [Act.put, List.setIfInBounds_toArray, List.set_cons_zero, List.set_cons_succ]))
      | ((refine own_store (T := 3) HO rfl rfl rfl rfl (by first | exact .here | exact .there (.here) | exact .there (.there (.here)) | exact .there (.there (.there (.here))) | exact .there (.there (.there (.there (.here)))) | exact .there (.there (.there (.there (.there (.here)))))) Tryd.sizeOf3 (by repeat constructor) rfl ?_); clear HO; intro wN HO; (try simp only [Act.put, List.setIfInBounds_toArray, List.set_cons_zero, List.set_cons_succ]))
      | ((refine own_store (T := 4) HO rfl rfl rfl rfl (by first | exact .here | exact .there (.here) | exact .there (.there (.here)) | exact .there (.there (.there (.here))) | exact .there (.there (.there (.there (.here)))) | exact .there (.there (.there (.there (.there (.here)))))) Tryd.sizeOf4 (by repeat constructor) rfl ?_); clear HO; intro wN HO; (try simp only [Act.put, List.setIfInBounds_toArray, List.set_cons_zero, List.set_cons_succ])))))
        refine bodyPost_ret (own_results2 HO Tryd.results64 rfl (by first | exact .head _ | exact .tail _ (.head _) | exact .tail _ (.tail _ (.head _)) | exact .tail _ (.tail _ (.tail _ (.head _))) | exact .tail _ (.tail _ (.tail _ (.tail _ (.head _)))) | exact .tail _ (.tail _ (.tail _ (.tail _ (.tail _ (.head _)))))) Tryd.isAgg39 Tryd.sizeOf39 (by repeat constructor)) rfl ⟨?_, HO.below⟩
        simp only [setChoice, Md.v, HE3.out _ HX.out]
        rfl
    · go_wp2_with (first
      | ((with_reducible refine gate ?_); (first
      | ((refine own_box HO rfl rfl rfl ?_); clear HO; intro gN wN hgN HO; (simp only [List.nil_append, List.cons_append] at HO); (try simp only [Act.put, List.setIfInBounds_toArray, List.set_cons_zero, List.set_cons_succ]))
      | ((refine own_alloc (T := 39) HO rfl rfl Tryd.zeroValue39 rfl ?_); clear HO; intro gN wN hgN HO; (simp only [List.nil_append, List.cons_append] at HO); (try simp only [Act.put, List.setIfInBounds_toArray, List.set_cons_zero, List.set_cons_succ]))
      | ((refine own_alloc (T := 3) HO rfl rfl Tryd.zeroValue3 rfl ?_); clear HO; intro gN wN hgN HO; (simp only [List.nil_append, List.cons_append] at HO); (try simp only [Act.put, List.setIfInBounds_toArray, List.set_cons_zero, List.set_cons_succ]))
      | ((refine own_alloc (T := 4) HO rfl rfl Tryd.zeroValue4 rfl ?_); clear HO; intro gN wN hgN HO; (simp only [List.nil_append, List.cons_append] at HO); (try simp only [Act.put, List.setIfInBounds_toArray, List.set_cons_zero, List.set_cons_succ]))
      | ((refine own_load (T := 39) HO rfl rfl rfl (by first | exact .head _ | exact .tail _ (.head _) | exact .tail _ (.tail _ (.head _)) | exact .tail _ (.tail _ (.tail _ (.head _))) | exact .tail _ (.tail _ (.tail _ (.tail _ (.head _)))) | exact .tail _ (.tail _ (.tail _ (.tail _ (.tail _ (.head _)))))) Tryd.isAgg39 Tryd.sizeOf39 (by repeat constructor) ?_); (try simp only [Act.put, List.setIfInBounds_toArray, List.set_cons_zero, List.set_cons_succ]))
      | ((refine own_load1 (T := 3) HO rfl rfl rfl (by first | exact .head _ | exact .tail _ (.head _) | exact .tail _ (.tail _ (.head _)) | exact .tail _ (.tail _ (.tail _ (.head _))) | exact .tail _ (.tail _ (.tail _ (.tail _ (.head _)))) | exact .tail _ (.tail _ (.tail _ (.tail _ (.tail _ (.head _)))))) Tryd.isAgg3 rfl ?_); (try simp only [Act.put, List.setIfInBounds_toArray, List.set_cons_zero, List.set_cons_succ]))
      | ((refine own_load1 (T := 4) HO rfl rfl rfl (by first | exact .head _ | exact .tail _ (.head _) | exact .tail _ (.tail _ (.head _)) | exact .tail _ (.tail _ (.tail _ (.head _))) | exact .tail _ (.tail _ (.tail _ (.tail _ (.head _)))) | exact .tail _ (.tail _ (.tail _ (.tail _ (.tail _ (.head _)))))) Tryd.isAgg4 rfl ?_); (try simp only [Act.put, List.setIfInBounds_toArray, List.set_cons_zero, List.set_cons_succ]))
      | ((refine own_store (T := 39) HO rfl rfl rfl rfl (by first | exact .here | exact .there (.here) | exact .there (.there (.here)) | exact .there (.there (.there (.here))) | exact .there (.there (.there (.there (.here)))) | exact .there (.there (.there (.there (.there (.here)))))) Tryd.sizeOf39 (by repeat constructor) rfl ?_); clear HO; intro wN HO; (try simp only [Act.put, List.setIfInBounds_toArray, List.set_cons_zero, List.set_cons_succ]))
      | ((refine own_store (T := 3) HO rfl rfl rfl rfl (by first | exact .here | exact .there (.here) | exact .there (.there (.here)) | exact .there (.there (.there (.here))) | exact .there (.there (.there (.there (.here)))) | exact .there (.there (.there (.there (.there (.here)))))) Tryd.sizeOf3 (by repeat constructor) rfl ?_); clear HO; intro wN HO; (try simp only [Act.put, List.setIfInBounds_toArray, List.set_cons_zero, List.set_cons_succ]))
      | ((refine own_store (T := 4) HO rfl rfl rfl rfl (by first | exact .here | exact .there (.here) | exact .there (.there (.here)) | exact .there (.there (.there (.here))) | exact .there (.there (.there (.there (.here)))) | exact .there (.there (.there (.there (.there (.here)))))) Tryd.sizeOf4 (by repeat constructor) rfl ?_); clear HO; intro wN HO; (try simp only [Act.put, List.setIfInBounds_toArray, List.set_cons_zero, List.set_cons_succ])))))
      refine bodyPost_ret (own_results2 HO Tryd.results64 rfl (by first | exact .head _ | exact .tail _ (.head _) | exact .tail _ (.tail _ (.head _)) | exact .tail _ (.tail _ (.tail _ (.head _))) | exact .tail _ (.tail _ (.tail _ (.tail _ (.head _)))) | exact .tail _ (.tail _ (.tail _ (.tail _ (.tail _ (.head _)))))) Tryd.isAgg39 Tryd.sizeOf39 (by repeat constructor)) rfl ⟨rfl, HO.below⟩
set_option maxHeartbeats 1000000 in
theorem set_none (m : Md) (p : Bool) (n : Int) (on : Bool) (w : World) (h0 : flagIx p n = none) (h : choiceIx p n = none) :
    Calls Tryd.prog 64 #[m.v, .bool p, .int .i64 n, .bool on] w fun e w' => e = .returned (.tuple #[m.v, .bool false]) ∧ Below w.heap.size w w' := by
  have H := Lib.hid h
  have H0 := Lib.hid h0
  clear h h0
  have HO := Mine.start w
  go_enter Tryd.func64, Tryd.ntmps64
  go_wp2_with (first
      | ((with_reducible refine gate ?_); (first
      | ((refine own_box HO rfl rfl rfl ?_); clear HO; intro gN wN hgN HO; (simp only [List.nil_append, List.cons_append] at HO); (try simp only [Act.put, List.setIfInBounds_toArray, List.set_cons_zero, List.set_cons_succ]))
      | ((refine own_alloc (T := 39) HO rfl rfl Tryd.zeroValue39 rfl ?_); clear HO; intro gN wN hgN HO; (simp only [List.nil_append, List.cons_append] at HO); (try simp only [Act.put, List.setIfInBounds_toArray, List.set_cons_zero, List.set_cons_succ]))
      | ((refine own_alloc (T := 3) HO rfl rfl Tryd.zeroValue3 rfl ?_); clear HO; intro gN wN hgN HO; (simp only [List.nil_append, List.cons_append] at HO); (try simp only [Act.put, List.setIfInBounds_toArray, List.set_cons_zero, List.set_cons_succ]))
      | ((refine own_alloc (T := 4) HO rfl rfl Tryd.zeroValue4 rfl ?_); clear HO; intro gN wN hgN HO; (simp only [List.nil_append, List.cons_append] at HO); (try simp only [Act.put, List.setIfInBounds_toArray, List.set_cons_zero, List.set_cons_succ]))
      | ((refine own_load (T := 39) HO rfl rfl rfl (by first | exact .head _ | exact .tail _ (.head _) | exact .tail _ (.tail _ (.head _)) | exact .tail _ (.tail _ (.tail _ (.head _))) | exact .tail _ (.tail _ (.tail _ (.tail _ (.head _)))) | exact .tail _ (.tail _ (.tail _ (.tail _ (.tail _ (.head _)))))) Tryd.isAgg39 Tryd.sizeOf39 (by repeat constructor) ?_); (try simp only [Act.put, List.setIfInBounds_toArray, List.set_cons_zero, List.set_cons_succ]))
      | ((refine own_load1 (T := 3) HO rfl rfl rfl (by first | exact .head _ | exact .tail _ (.head _) | exact .tail _ (.tail _ (.head _)) | exact .tail _ (.tail _ (.tail _ (.head _))) | exact .tail _ (.tail _ (.tail _ (.tail _ (.head _)))) | exact .tail _ (.tail _ (.tail _ (.tail _ (.tail _ (.head _)))))) Tryd.isAgg3 rfl ?_); (try simp only [Act.put, List.setIfInBounds_toArray, List.set_cons_zero, List.set_cons_succ]))
      | ((refine own_load1 (T := 4) HO rfl rfl rfl (by first | exact .head _ | exact .tail _ (.head _) | exact .tail _ (.tail _ (.head _)) | exact .tail _ (.tail _ (.tail _ (.head _))) | exact .tail _ (.tail _ (.tail _ (.tail _ (.head _)))) | exact .tail _ (.tail _ (.tail _ (.tail _ (.tail _ (.head _)))))) Tryd.isAgg4 rfl ?_); (try simp only [Act.put, List.setIfInBounds_toArray, List.set_cons_zero, List.set_cons_succ]))
      | ((refine own_store (T := 39) HO rfl rfl rfl rfl (by first | exact .here | exact .there (.here) | exact .there (.there (.here)) | exact .there (.there (.there (.here))) | exact .there (.there (.there (.there (.here)))) | exact .there (.there (.there (.there (.there (.here)))))) Tryd.sizeOf39 (by repeat constructor) rfl ?_); clear HO; intro wN HO; (try simp only [Act.put, List.setIfInBounds_toArray, List.set_cons_zero, List.set_cons_succ]))
      | ((refine own_store (T := 3) HO rfl rfl rfl rfl (by first | exact .here | exact .there (.here) | exact .there (.there (.here)) | exact .there (.there (.there (.here))) | exact .there (.there (.there (.there (.here)))) | exact .there (.there (.there (.there (.there (.here)))))) Tryd.sizeOf3 (by repeat constructor) rfl ?_); clear HO; intro wN HO; (try simp only [Act.put, List.setIfInBounds_toArray, List.set_cons_zero, List.set_cons_succ]))
      | ((refine own_store (T := 4) HO rfl rfl rfl rfl (by first | exact .here | exact .there (.here) | exact .there (.there (.here)) | exact .there (.there (.there (.here))) | exact .there (.there (.there (.there (.here)))) | exact .there (.there (.there (.there (.there (.here)))))) Tryd.sizeOf4 (by repeat constructor) rfl ?_); clear HO; intro wN HO; (try simp only [Act.put, List.setIfInBounds_toArray, List.set_cons_zero, List.set_cons_succ])))))
  refine (flag_calls _ p n _).mono ?_
  rintro e w1 ⟨rfl, hb⟩
  replace HO := HO.call hb
  clear hb
  rw [H0.out]
  simp only [ptrAt, Option.map_none]
  go_wp2_with (first
      | ((with_reducible refine gate ?_); (first
      | ((refine own_box HO rfl rfl rfl ?_); clear HO; intro gN wN hgN HO; (simp only [List.nil_append, List.cons_append] at HO); (try simp only [Act.put, List.setIfInBounds_toArray, List.set_cons_zero, List.set_cons_succ]))
      | ((refine own_alloc (T := 39) HO rfl rfl Tryd.zeroValue39 rfl ?_); clear HO; intro gN wN hgN HO; (simp only [List.nil_append, List.cons_append] at HO); (try simp only [Act.put, List.setIfInBounds_toArray, List.set_cons_zero, List.set_cons_succ]))
      | ((refine own_alloc (T := 3) HO rfl rfl Tryd.zeroValue3 rfl ?_); clear HO; intro gN wN hgN HO; (simp only [List.nil_append, List.cons_append] at HO); (try simp only [Act.put, List.setIfInBounds_toArray, List.set_cons_zero, List.set_cons_succ]))
      | ((refine own_alloc (T := 4) HO rfl rfl Tryd.zeroValue4 rfl ?_); clear HO; intro gN wN hgN HO; (simp only [List.nil_append, List.cons_append] at HO); (try simp only [Act.put, List.setIfInBounds_toArray, List.set_cons_zero, List.set_cons_succ]))
      | ((refine own_load (T := 39) HO rfl rfl rfl (by first | exact .head _ | exact .tail _ (.head _) | exact .tail _ (.tail _ (.head _)) | exact .tail _ (.tail _ (.tail _ (.head _))) | exact .tail _ (.tail _ (.tail _ (.tail _ (.head _)))) | exact .tail _ (.tail _ (.tail _ (.tail _ (.tail _ (.head _)))))) Tryd.isAgg39 Tryd.sizeOf39 (by repeat constructor) ?_); (try simp only [Act.put, List.setIfInBounds_toArray, List.set_cons_zero, List.set_cons_succ]))
      | ((refine own_load1 (T := 3) HO rfl rfl rfl (by first | exact .head _ | exact .tail _ (.head _) | exact .tail _ (.tail _ (.head _)) | exact .tail _ (.tail _ (.tail _ (.head _))) | exact .tail _ (.tail _ (.tail _ (.tail _ (.head _)))) | exact .tail _ (.tail _ (.tail _ (.tail _ (.tail _ (.head _)))))) Tryd.isAgg3 rfl ?_); (try simp only [Act.put, List.setIfInBounds_toArray, List.set_cons_zero, List.set_cons_succ]))
      | ((refine own_load1 (T := 4) HO rfl rfl rfl (by first | exact .head _ | exact .tail _ (.head _) | exact .tail _ (.tail _ (.head _)) | exact .tail _ (.tail _ (.tail _ (.head _))) | exact .tail _ (.tail _ (.tail _ (.tail _ (.head _)))) | exact .tail _ (.tail _ (.tail _ (.tail _ (.tail _ (.head _)))))) Tryd.isAgg4 rfl ?_); (try simp only [Act.put, List.setIfInBounds_toArray, List.set_cons_zero, List.set_cons_succ]))
      | ((refine own_store (T := 39) HO rfl rfl rfl rfl (by first | exact .here | exact .there (.here) | exact .there (.there (.here)) | exact .there (.there (.there (.here))) | exact .there (.there (.there (.there (.here)))) | exact .there (.there (.there (.there (.there (.here)))))) Tryd.sizeOf39 (by repeat constructor) rfl ?_); clear HO; intro wN HO; (try simp only [Act.put, List.setIfInBounds_toArray, List.set_cons_zero, List.set_cons_succ]))
      | ((refine own_store (T := 3) HO rfl rfl rfl rfl (by first | exact .here | exact .there (.here) | exact .there (.there (.here)) | exact .there (.there (.there (.here))) | exact .there (.there (.there (.there (.here)))) | exact .there (.there (.there (.there (.there (.here)))))) Tryd.sizeOf3 (by repeat constructor) rfl ?_); clear HO; intro wN HO; (try simp only [Act.put, List.setIfInBounds_toArray, List.set_cons_zero, List.set_cons_succ]))
      | ((refine own_store (T := 4) HO rfl rfl rfl rfl (by first | exact .here | exact .there (.here) | exact .there (.there (.here)) | exact .there (.there (.there (.here))) | exact .there (.there (.there (.there (.here)))) | exact .there (.there (.there (.there (.there (.here)))))) Tryd.sizeOf4 (by repeat constructor) rfl ?_); clear HO; intro wN HO; (try simp only [Act.put, List.setIfInBounds_toArray, List.set_cons_zero, List.set_cons_succ])))))
  refine (choice_calls _ p n _).mono ?_
  rintro e w1 ⟨rfl, hb⟩
  replace HO := HO.call hb
  clear hb
  rw [H.out]
  simp only [ptrAt, Option.map_none]
  go_wp2_with (first
      | ((with_reducible refine gate ?_); (first
      | ((refine own_box HO rfl rfl rfl ?_); clear HO; intro gN wN hgN HO; (simp only [List.nil_append, List.cons_append] at HO); (try simp only [Act.put, List.setIfInBounds_toArray, List.set_cons_zero, List.set_cons_succ]))
      | ((refine own_alloc (T := 39) HO rfl rfl Tryd.zeroValue39 rfl ?_); clear HO; intro gN wN hgN HO; (simp only [List.nil_append, List.cons_append] at HO); (try simp only [Act.put, List.setIfInBounds_toArray, List.set_cons_zero, List.set_cons_succ]))
      | ((refine own_alloc (T := 3) HO rfl rfl Tryd.zeroValue3 rfl ?_); clear HO; intro gN wN hgN HO; (simp only [List.nil_append, List.cons_append] at HO); (try simp only [Act.put, List.setIfInBounds_toArray, List.set_cons_zero, List.set_cons_succ]))
      | ((refine own_alloc (T := 4) HO rfl rfl Tryd.zeroValue4 rfl ?_); clear HO; intro gN wN hgN HO; (simp only [List.nil_append, List.cons_append] at HO); (try simp only [Act.put, List.setIfInBounds_toArray, List.set_cons_zero, List.set_cons_succ]))
      | ((refine own_load (T := 39) HO rfl rfl rfl (by first | exact .head _ | exact .tail _ (.head _) | exact .tail _ (.tail _ (.head _)) | exact .tail _ (.tail _ (.tail _ (.head _))) | exact .tail _ (.tail _ (.tail _ (.tail _ (.head _)))) | exact .tail _ (.tail _ (.tail _ (.tail _ (.tail _ (.head _)))))) Tryd.isAgg39 Tryd.sizeOf39 (by repeat constructor) ?_); (try simp only [Act.put, List.setIfInBounds_toArray, List.set_cons_zero, List.set_cons_succ]))
      | ((refine own_load1 (T := 3) HO rfl rfl rfl (by first | exact .head _ | exact .tail _ (.head _) | exact .tail _ (.tail _ (.head _)) | exact .tail _ (.tail _ (.tail _ (.head _))) | exact .tail _ (.tail _ (.tail _ (.tail _ (.head _)))) | exact .tail _ (.tail _ (.tail _ (.tail _ (.tail _ (.head _)))))) Tryd.isAgg3 rfl ?_); (try simp only [Act.put, List.setIfInBounds_toArray, List.set_cons_zero, List.set_cons_succ]))
      | ((refine own_load1 (T := 4) HO rfl rfl rfl (by first | exact .head _ | exact .tail _ (.head _) | exact .tail _ (.tail _ (.head _)) | exact .tail _ (.tail _ (.tail _ (.head _))) | exact .tail _ (.tail _ (.tail _ (.tail _ (.head _)))) | exact .tail _ (.tail _ (.tail _ (.tail _ (.tail _ (.head _)))))) Tryd.isAgg4 rfl ?_); (try simp only [Act.put, List.setIfInBounds_toArray, List.set_cons_zero, List.set_cons_succ]))
      | ((refine own_store (T := 39) HO rfl rfl rfl rfl (by first | exact .here | exact .there (.here) | exact .there (.there (.here)) | exact .there (.there (.there (.here))) | exact .there (.there (.there (.there (.here)))) | exact .there (.there (.there (.there (.there (.here)))))) Tryd.sizeOf39 (by repeat constructor) rfl ?_); clear HO; intro wN HO; (try simp only [Act.put, List.setIfInBounds_toArray, List.set_cons_zero, List.set_cons_succ]))
      | ((refine own_store (T := 3) HO rfl rfl rfl rfl (by first | exact .here | exact .there (.here) | exact .there (.there (.here)) | exact .there (.there (.there (.here))) | exact .there (.there (.there (.there (.here)))) | exact .there (.there (.there (.there (.there (.here)))))) Tryd.sizeOf3 (by repeat constructor) rfl ?_); clear HO; intro wN HO; (try simp only [Act.put, List.setIfInBounds_toArray, List.set_cons_zero, List.set_cons_succ]))
      | ((refine own_store (T := 4) HO rfl rfl rfl rfl (by first | exact .here | exact .there (.here) | exact .there (.there (.here)) | exact .there (.there (.there (.here))) | exact .there (.there (.there (.there (.here)))) | exact .there (.there (.there (.there (.there (.here)))))) Tryd.sizeOf4 (by repeat constructor) rfl ?_); clear HO; intro wN HO; (try simp only [Act.put, List.setIfInBounds_toArray, List.set_cons_zero, List.set_cons_succ])))))
  refine bodyPost_ret (own_results2 HO Tryd.results64 rfl (by first | exact .head _ | exact .tail _ (.head _) | exact .tail _ (.tail _ (.head _)) | exact .tail _ (.tail _ (.tail _ (.head _))) | exact .tail _ (.tail _ (.tail _ (.tail _ (.head _)))) | exact .tail _ (.tail _ (.tail _ (.tail _ (.tail _ (.head _)))))) Tryd.isAgg39 Tryd.sizeOf39 (by repeat constructor)) rfl ⟨rfl, HO.below⟩
theorem set_calls (m : Md) (p : Bool) (n : Int) (on : Bool) (w : World) :
    Calls Tryd.prog 64 #[m.v, .bool p, .int .i64 n, .bool on] w fun e w' => e = .returned (.tuple #[(setM m p n on).1.v, .bool (setM m p n on).2]) ∧ Below w.heap.size w w' := by
  cases h0 : flagIx p n with
  | some i => simpa [setM, h0] using set_flag m p n on i w h0
  | none =>
    cases h : choiceIx p n with
    | some i => simpa [setM, h0, h] using set_choice m p n on i w h0 h
    | none => simpa [setM, h0, h] using set_none m p n on w h0 h
end Go.Proofs.YtopcleljecdkkaaDoor
end
section
namespace Go.Proofs.YtopcleljecdkkaaDoor
set_option linter.unusedVariables false
set_option linter.unusedSimpArgs false
open Go.RowKit Kit
theorem Md.ext_iff' (m n : Md) : (m.cursor == n.cursor && (m.keypad == n.keypad && (m.back == n.back && (m.focus == n.focus && (m.paste == n.paste && (m.lock == n.lock && (m.line == n.line && (m.mouse == n.mouse && (m.coding == n.coding && (m.other == n.other && true)))))))))) = decide (m = n) := by
  rw [Bool.eq_iff_iff]
  cases m; cases n
  simp [and_assoc]
theorem equal_modes (m n : Md) (w : World) : (Op.equal 39 m.v n.v).run Tryd.prog w = .ok (decide (m = n)) w := by
  rw [← Md.ext_iff']
  refine eqStruct_of Tryd.underlying39 (by kernel_rfl) ?_
  refine eqF_cons (by rfl) (by go_simp; rfl) (by go_simp; rfl) (by go_simp) ?_
  refine eqF_cons (by rfl) (by go_simp; rfl) (by go_simp; rfl) (by go_simp) ?_
  refine eqF_cons (by rfl) (by go_simp; rfl) (by go_simp; rfl) (by go_simp) ?_
  refine eqF_cons (by rfl) (by go_simp; rfl) (by go_simp; rfl) (by go_simp) ?_
  refine eqF_cons (by rfl) (by go_simp; rfl) (by go_simp; rfl) (by go_simp) ?_
  refine eqF_cons (by rfl) (by go_simp; rfl) (by go_simp; rfl) (by go_simp) ?_
  refine eqF_cons (by rfl) (by go_simp; rfl) (by go_simp; rfl) (by go_simp) ?_
  refine eqF_cons (by rfl) (by go_simp; rfl) (by go_simp; rfl) (by go_simp) ?_
  refine eqF_cons (by rfl) (by go_simp; rfl) (by go_simp; rfl) (by go_simp) ?_
  refine eqF_cons (by rfl) (by go_simp; rfl) (by go_simp; rfl) (by go_simp) ?_
  exact eqF_nil
theorem fixed_says (n : Int) : ∃ ok, Says [(Value.int .i64 7, Value.int .i64 3), (.int .i64 25, .int .i64 3)] (.int .i64 n) (.int .i64 0) (.int .i64 (fixedM true n)) ok := by
  by_cases h1 : n = 7
  · subst h1; exact ⟨_, .hit _ (by simp [fixedM])⟩
  by_cases h2 : n = 25
  · subst h2; exact ⟨_, .hit _ (by simp [fixedM])⟩
  have e : fixedM true n = 0 := by simp [fixedM, h1, h2]
  rw [e]
  exact ⟨_, .miss (by simp [h1, h2, eq_comm])⟩
theorem fixed_says' (n : Int) : ∃ ok, Says [(Value.int .i64 4, Value.int .i64 4), (.int .i64 12, .int .i64 4)] (.int .i64 n) (.int .i64 0) (.int .i64 (fixedM false n)) ok := by
  by_cases h1 : n = 4
  · subst h1; exact ⟨_, .hit _ (by simp [fixedM])⟩
  by_cases h2 : n = 12
  · subst h2; exact ⟨_, .hit _ (by simp [fixedM])⟩
  have e : fixedM false n = 0 := by simp [fixedM, h1, h2]
  rw [e]
  exact ⟨_, .miss (by simp [h1, h2, eq_comm])⟩
set_option maxHeartbeats 1000000 in
theorem get_calls (m : Md) (p : Bool) (n : Int) (w : World) :
    Calls Tryd.prog 45 #[m.v, .bool p, .int .i64 n] w fun e w' => e = .returned (.int .i64 (getM m p n)) ∧ Below w.heap.size w w' := by
  have HO := Mine.start w
  obtain ⟨on, hon⟩ : ∃ x, setM m p n true = x := ⟨_, rfl⟩
  have hg : getM m p n = if on.2 then (if on.1 = m then 1 else 2) else fixedM p n := by simp [getM, hon]
  have HG := Lib.hid hg
  have HON' := Lib.hid hon
  clear hg hon
  go_enter Tryd.func45, Tryd.ntmps45
  go_wp2_with (first
      | ((with_reducible refine gate ?_); (first
      | ((refine own_box HO rfl rfl rfl ?_); clear HO; intro gN wN hgN HO; (simp only [List.nil_append, List.cons_append] at HO); (try simp only [Act.put, List.setIfInBounds_toArray, List.set_cons_zero, List.set_cons_succ]))
      | ((refine own_alloc (T := 39) HO rfl rfl Tryd.zeroValue39 rfl ?_); clear HO; intro gN wN hgN HO; (simp only [List.nil_append, List.cons_append] at HO); (try simp only [Act.put, List.setIfInBounds_toArray, List.set_cons_zero, List.set_cons_succ]))
      | ((refine own_alloc (T := 3) HO rfl rfl Tryd.zeroValue3 rfl ?_); clear HO; intro gN wN hgN HO; (simp only [List.nil_append, List.cons_append] at HO); (try simp only [Act.put, List.setIfInBounds_toArray, List.set_cons_zero, List.set_cons_succ]))
      | ((refine own_alloc (T := 4) HO rfl rfl Tryd.zeroValue4 rfl ?_); clear HO; intro gN wN hgN HO; (simp only [List.nil_append, List.cons_append] at HO); (try simp only [Act.put, List.setIfInBounds_toArray, List.set_cons_zero, List.set_cons_succ]))
      | ((refine own_load (T := 39) HO rfl rfl rfl (by first | exact .head _ | exact .tail _ (.head _) | exact .tail _ (.tail _ (.head _)) | exact .tail _ (.tail _ (.tail _ (.head _))) | exact .tail _ (.tail _ (.tail _ (.tail _ (.head _)))) | exact .tail _ (.tail _ (.tail _ (.tail _ (.tail _ (.head _)))))) Tryd.isAgg39 Tryd.sizeOf39 (by repeat constructor) ?_); (try simp only [Act.put, List.setIfInBounds_toArray, List.set_cons_zero, List.set_cons_succ]))
      | ((refine own_load1 (T := 3) HO rfl rfl rfl (by first | exact .head _ | exact .tail _ (.head _) | exact .tail _ (.tail _ (.head _)) | exact .tail _ (.tail _ (.tail _ (.head _))) | exact .tail _ (.tail _ (.tail _ (.tail _ (.head _)))) | exact .tail _ (.tail _ (.tail _ (.tail _ (.tail _ (.head _)))))) Tryd.isAgg3 rfl ?_); (try simp only [Act.put, List.setIfInBounds_toArray, List.set_cons_zero, List.set_cons_succ]))
      | ((refine own_load1 (T := 4) HO rfl rfl rfl (by first | exact .head _ | exact .tail _ (.head _) | exact .tail _ (.tail _ (.head _)) | exact .tail _ (.tail _ (.tail _ (.head _))) | exact .tail _ (.tail _ (.tail _ (.tail _ (.head _)))) | exact .tail _ (.tail _ (.tail _ (.tail _ (.tail _ (.head _)))))) Tryd.isAgg4 rfl ?_); (try simp only [Act.put, List.setIfInBounds_toArray, List.set_cons_zero, List.set_cons_succ]))
      | ((refine own_store (T := 39) HO rfl rfl rfl rfl (by first | exact .here | exact .there (.here) | exact .there (.there (.here)) | exact .there (.there (.there (.here))) | exact .there (.there (.there (.there (.here)))) | exact .there (.there (.there (.there (.there (.here)))))) Tryd.sizeOf39 (by repeat constructor) rfl ?_); clear HO; intro wN HO; (try simp only [Act.put, List.setIfInBounds_toArray, List.set_cons_zero, List.set_cons_succ]))
      | ((refine own_store (T := 3) HO rfl rfl rfl rfl (by first | exact .here | exact .there (.here) | exact .there (.there (.here)) | exact .there (.there (.there (.here))) | exact .there (.there (.there (.there (.here)))) | exact .there (.there (.there (.there (.there (.here)))))) Tryd.sizeOf3 (by repeat constructor) rfl ?_); clear HO; intro wN HO; (try simp only [Act.put, List.setIfInBounds_toArray, List.set_cons_zero, List.set_cons_succ]))
      | ((refine own_store (T := 4) HO rfl rfl rfl rfl (by first | exact .here | exact .there (.here) | exact .there (.there (.here)) | exact .there (.there (.there (.here))) | exact .there (.there (.there (.there (.here)))) | exact .there (.there (.there (.there (.there (.here)))))) Tryd.sizeOf4 (by repeat constructor) rfl ?_); clear HO; intro wN HO; (try simp only [Act.put, List.setIfInBounds_toArray, List.set_cons_zero, List.set_cons_succ])))))
  refine (set_calls m p n true _).mono ?_
  rintro e w1 ⟨rfl, hb⟩
  replace HO := HO.call hb
  clear hb
  rw [HON'.out]
  clear HON'
  obtain ⟨on, ok⟩ := on
  dsimp only at HG ⊢
  cases ok
  · have hgf : getM m p n = fixedM p n := by rw [HG.out]; rfl
    have HGF := Lib.hid hgf
    clear HG hgf
    cases p
    · obtain ⟨ok, hs⟩ := fixed_says' n
      have HS := Lib.hid hs
      clear hs
      go_wp2_with (first
      | ((with_reducible refine gate ?_); (first
      | ((refine own_makeMap HO rfl rfl ?_); clear HO; intro gN wN hgN HO; (simp only [List.nil_append, List.cons_append] at HO); (try simp only [Act.put, List.setIfInBounds_toArray, List.set_cons_zero, List.set_cons_succ]))
      | ((refine own_insert (mt := 83) HO rfl rfl rfl (by first | exact .const | exact .tmp rfl | exact .func) (by first | exact .const | exact .tmp rfl | exact .func) Tryd.underlying83 Tryd.underlying3 (by first | exact .here | exact .there (.here) | exact .there (.there (.here)) | exact .there (.there (.there (.here))) | exact .there (.there (.there (.there (.here)))) | exact .there (.there (.there (.there (.there (.here)))))) (by simp [MapKept.IsKey]) (by first | exact rfl | exact trivial) (by simp) ?_); clear HO; intro wN HO; (simp only [List.nil_append, List.cons_append] at HO); (try simp only [Act.put, List.setIfInBounds_toArray, List.set_cons_zero, List.set_cons_succ]))
      | ((refine own_insert (mt := 84) HO rfl rfl rfl (by first | exact .const | exact .tmp rfl | exact .func) (by first | exact .const | exact .tmp rfl | exact .func) Tryd.underlying84 Tryd.underlying4 (by first | exact .here | exact .there (.here) | exact .there (.there (.here)) | exact .there (.there (.there (.here))) | exact .there (.there (.there (.there (.here)))) | exact .there (.there (.there (.there (.there (.here)))))) (by simp [MapKept.IsKey]) (by first | exact rfl | exact trivial) (by simp) ?_); clear HO; intro wN HO; (simp only [List.nil_append, List.cons_append] at HO); (try simp only [Act.put, List.setIfInBounds_toArray, List.set_cons_zero, List.set_cons_succ]))
      | ((refine own_lookup (mt := 84) HO rfl rfl rfl (by first | exact .const | exact .tmp rfl | exact .func) Tryd.underlying84 Tryd.underlying4 Tryd.zeroValue83 (by first | exact .head _ | exact .tail _ (.head _) | exact .tail _ (.tail _ (.head _)) | exact .tail _ (.tail _ (.tail _ (.head _))) | exact .tail _ (.tail _ (.tail _ (.tail _ (.head _)))) | exact .tail _ (.tail _ (.tail _ (.tail _ (.tail _ (.head _)))))) (by simp) (by simp [MapKept.IsKey]) (by first | exact rfl | exact trivial) (.hit _ (by simp; rfl)) ?_); (try simp only [Act.put, List.setIfInBounds_toArray, List.set_cons_zero, List.set_cons_succ]))
      | ((refine own_lookup (mt := 83) HO rfl rfl rfl (by first | exact .const | exact .tmp rfl | exact .func) Tryd.underlying83 Tryd.underlying3 Tryd.zeroValue3 (by first | exact .head _ | exact .tail _ (.head _) | exact .tail _ (.tail _ (.head _)) | exact .tail _ (.tail _ (.tail _ (.head _))) | exact .tail _ (.tail _ (.tail _ (.tail _ (.head _)))) | exact .tail _ (.tail _ (.tail _ (.tail _ (.tail _ (.head _)))))) (by simp) (by simp [MapKept.IsKey]) (by first | exact rfl | exact trivial) (HS.out) ?_); (try simp only [Act.put, List.setIfInBounds_toArray, List.set_cons_zero, List.set_cons_succ]))
      | ((refine own_box HO rfl rfl rfl ?_); clear HO; intro gN wN hgN HO; (simp only [List.nil_append, List.cons_append] at HO); (try simp only [Act.put, List.setIfInBounds_toArray, List.set_cons_zero, List.set_cons_succ]))
      | ((refine own_alloc (T := 39) HO rfl rfl Tryd.zeroValue39 rfl ?_); clear HO; intro gN wN hgN HO; (simp only [List.nil_append, List.cons_append] at HO); (try simp only [Act.put, List.setIfInBounds_toArray, List.set_cons_zero, List.set_cons_succ]))
      | ((refine own_alloc (T := 3) HO rfl rfl Tryd.zeroValue3 rfl ?_); clear HO; intro gN wN hgN HO; (simp only [List.nil_append, List.cons_append] at HO); (try simp only [Act.put, List.setIfInBounds_toArray, List.set_cons_zero, List.set_cons_succ]))
      | ((refine own_alloc (T := 4) HO rfl rfl Tryd.zeroValue4 rfl ?_); clear HO; intro gN wN hgN HO; (simp only [List.nil_append, List.cons_append] at HO); (try simp only [Act.put, List.setIfInBounds_toArray, List.set_cons_zero, List.set_cons_succ]))
      | ((refine own_load (T := 39) HO rfl rfl rfl (by first | exact .head _ | exact .tail _ (.head _) | exact .tail _ (.tail _ (.head _)) | exact .tail _ (.tail _ (.tail _ (.head _))) | exact .tail _ (.tail _ (.tail _ (.tail _ (.head _)))) | exact .tail _ (.tail _ (.tail _ (.tail _ (.tail _ (.head _)))))) Tryd.isAgg39 Tryd.sizeOf39 (by repeat constructor) ?_); (try simp only [Act.put, List.setIfInBounds_toArray, List.set_cons_zero, List.set_cons_succ]))
      | ((refine own_load1 (T := 3) HO rfl rfl rfl (by first | exact .head _ | exact .tail _ (.head _) | exact .tail _ (.tail _ (.head _)) | exact .tail _ (.tail _ (.tail _ (.head _))) | exact .tail _ (.tail _ (.tail _ (.tail _ (.head _)))) | exact .tail _ (.tail _ (.tail _ (.tail _ (.tail _ (.head _)))))) Tryd.isAgg3 rfl ?_); (try simp only [Act.put, List.setIfInBounds_toArray, List.set_cons_zero, List.set_cons_succ]))
      | ((refine own_load1 (T := 4) HO rfl rfl rfl (by first | exact .head _ | exact .tail _ (.head _) | exact .tail _ (.tail _ (.head _)) | exact .tail _ (.tail _ (.tail _ (.head _))) | exact .tail _ (.tail _ (.tail _ (.tail _ (.head _)))) | exact .tail _ (.tail _ (.tail _ (.tail _ (.tail _ (.head _)))))) Tryd.isAgg4 rfl ?_); (try simp only [Act.put, List.setIfInBounds_toArray, List.set_cons_zero, List.set_cons_succ]))
      | ((refine own_store (T := 39) HO rfl rfl rfl rfl (by first | exact .here | exact .there (.here) | exact .there (.there (.here)) | exact .there (.there (.there (.here))) | exact .there (.there (.there (.there (.here)))) | exact .there (.there (.there (.there (.there (.here)))))) Tryd.sizeOf39 (by repeat constructor) rfl ?_); clear HO; intro wN HO; (try simp only [Act.put, List.setIfInBounds_toArray, List.set_cons_zero, List.set_cons_succ]))
      | ((refine own_store (T := 3) HO rfl rfl rfl rfl (by first | exact .here | exact .there (.here) | exact .there (.there (.here)) | exact .there (.there (.there (.here))) | exact .there (.there (.there (.there (.here)))) | exact .there (.there (.there (.there (.there (.here)))))) Tryd.sizeOf3 (by repeat constructor) rfl ?_); clear HO; intro wN HO; (try simp only [Act.put, List.setIfInBounds_toArray, List.set_cons_zero, List.set_cons_succ]))
      | ((refine own_store (T := 4) HO rfl rfl rfl rfl (by first | exact .here | exact .there (.here) | exact .there (.there (.here)) | exact .there (.there (.there (.here))) | exact .there (.there (.there (.there (.here)))) | exact .there (.there (.there (.there (.there (.here)))))) Tryd.sizeOf4 (by repeat constructor) rfl ?_); clear HO; intro wN HO; (try simp only [Act.put, List.setIfInBounds_toArray, List.set_cons_zero, List.set_cons_succ])))))
      go_ret
      exact ⟨ret_int HGF.out.symm, HO.below⟩
    · obtain ⟨ok, hs⟩ := fixed_says n
      have HS := Lib.hid hs
      clear hs
      go_wp2_with (first
      | ((with_reducible refine gate ?_); (first
      | ((refine own_makeMap HO rfl rfl ?_); clear HO; intro gN wN hgN HO; (simp only [List.nil_append, List.cons_append] at HO); (try simp only [Act.put, List.setIfInBounds_toArray, List.set_cons_zero, List.set_cons_succ]))
      | ((refine own_insert (mt := 83) HO rfl rfl rfl (by first | exact .const | exact .tmp rfl | exact .func) (by first | exact .const | exact .tmp rfl | exact .func) Tryd.underlying83 Tryd.underlying3 (by first | exact .here | exact .there (.here) | exact .there (.there (.here)) | exact .there (.there (.there (.here))) | exact .there (.there (.there (.there (.here)))) | exact .there (.there (.there (.there (.there (.here)))))) (by simp [MapKept.IsKey]) (by first | exact rfl | exact trivial) (by simp) ?_); clear HO; intro wN HO; (simp only [List.nil_append, List.cons_append] at HO); (try simp only [Act.put, List.setIfInBounds_toArray, List.set_cons_zero, List.set_cons_succ]))
      | ((refine own_insert (mt := 84) HO rfl rfl rfl (by first | exact .const | exact .tmp rfl | exact .func) (by first | exact .const | exact .tmp rfl | exact .func) Tryd.underlying84 Tryd.underlying4 (by first | exact .here | exact .there (.here) | exact .there (.there (.here)) | exact .there (.there (.there (.here))) | exact .there (.there (.there (.there (.here)))) | exact .there (.there (.there (.there (.there (.here)))))) (by simp [MapKept.IsKey]) (by first | exact rfl | exact trivial) (by simp) ?_); clear HO; intro wN HO; (simp only [List.nil_append, List.cons_append] at HO); (try simp only [Act.put, List.setIfInBounds_toArray, List.set_cons_zero, List.set_cons_succ]))
      | ((refine own_lookup (mt := 84) HO rfl rfl rfl (by first | exact .const | exact .tmp rfl | exact .func) Tryd.underlying84 Tryd.underlying4 Tryd.zeroValue83 (by first | exact .head _ | exact .tail _ (.head _) | exact .tail _ (.tail _ (.head _)) | exact .tail _ (.tail _ (.tail _ (.head _))) | exact .tail _ (.tail _ (.tail _ (.tail _ (.head _)))) | exact .tail _ (.tail _ (.tail _ (.tail _ (.tail _ (.head _)))))) (by simp) (by simp [MapKept.IsKey]) (by first | exact rfl | exact trivial) (.hit _ (by simp; rfl)) ?_); (try simp only [Act.put, List.setIfInBounds_toArray, List.set_cons_zero, List.set_cons_succ]))
      | ((refine own_lookup (mt := 83) HO rfl rfl rfl (by first | exact .const | exact .tmp rfl | exact .func) Tryd.underlying83 Tryd.underlying3 Tryd.zeroValue3 (by first | exact .head _ | exact .tail _ (.head _) | exact .tail _ (.tail _ (.head _)) | exact .tail _ (.tail _ (.tail _ (.head _))) | exact .tail _ (.tail _ (.tail _ (.tail _ (.head _)))) | exact .tail _ (.tail _ (.tail _ (.tail _ (.tail _ (.head _)))))) (by simp) (by simp [MapKept.IsKey]) (by first | exact rfl | exact trivial) (HS.out) ?_); (try simp only [Act.put, List.setIfInBounds_toArray, List.set_cons_zero, List.set_cons_succ]))
      | ((refine own_box HO rfl rfl rfl ?_); clear HO; intro gN wN hgN HO; (simp only [List.nil_append, List.cons_append] at HO); (try simp only [Act.put, List.setIfInBounds_toArray, List.set_cons_zero, List.set_cons_succ]))
      | ((refine own_alloc (T := 39) HO rfl rfl Tryd.zeroValue39 rfl ?_); clear HO; intro gN wN hgN HO; (simp only [List.nil_append, List.cons_append] at HO); (try simp only [Act.put, List.setIfInBounds_toArray, List.set_cons_zero, List.set_cons_succ]))
      | ((refine own_alloc (T := 3) HO rfl rfl Tryd.zeroValue3 rfl ?_); clear HO; intro gN wN hgN HO; (simp only [List.nil_append, List.cons_append] at HO); (try simp only [Act.put, List.setIfInBounds_toArray, List.set_cons_zero, List.set_cons_succ]))
      | ((refine own_alloc (T := 4) HO rfl rfl Tryd.zeroValue4 rfl ?_); clear HO; intro gN wN hgN HO; (simp only [List.nil_append, List.cons_append] at HO); (try simp only [Act.put, List.setIfInBounds_toArray, List.set_cons_zero, List.set_cons_succ]))
      | ((refine own_load (T := 39) HO rfl rfl rfl (by first | exact .head _ | exact .tail _ (.head _) | exact .tail _ (.tail _ (.head _)) | exact .tail _ (.tail _ (.tail _ (.head _))) | exact .tail _ (.tail _ (.tail _ (.tail _ (.head _)))) | exact .tail _ (.tail _ (.tail _ (.tail _ (.tail _ (.head _)))))) Tryd.isAgg39 Tryd.sizeOf39 (by repeat constructor) ?_); (try simp only [Act.put, List.setIfInBounds_toArray, List.set_cons_zero, List.set_cons_succ]))
      | ((refine own_load1 (T := 3) HO rfl rfl rfl (by first | exact .head _ | exact .tail _ (.head _) | exact .tail _ (.tail _ (.head _)) | exact .tail _ (.tail _ (.tail _ (.head _))) | exact .tail _ (.tail _ (.tail _ (.tail _ (.head _)))) | exact .tail _ (.tail _ (.tail _ (.tail _ (.tail _ (.head _)))))) Tryd.isAgg3 rfl ?_); (try simp only [Act.put, List.setIfInBounds_toArray, List.set_cons_zero, List.set_cons_succ]))
      | ((refine own_load1 (T := 4) HO rfl rfl rfl (by first | exact .head _ | exact .tail _ (.head _) | exact .tail _ (.tail _ (.head _)) | exact .tail _ (.tail _ (.tail _ (.head _))) | exact .tail _ (.tail _ (.tail _ (.tail _ (.head _)))) | exact .tail _ (.tail _ (.tail _ (.tail _ (.tail _ (.head _)))))) Tryd.isAgg4 rfl ?_); (try simp only [Act.put, List.setIfInBounds_toArray, List.set_cons_zero, List.set_cons_succ]))
      | ((refine own_store (T := 39) HO rfl rfl rfl rfl (by first | exact .here | exact .there (.here) | exact .there (.there (.here)) | exact .there (.there (.there (.here))) | exact .there (.there (.there (.there (.here)))) | exact .there (.there (.there (.there (.there (.here)))))) Tryd.sizeOf39 (by repeat constructor) rfl ?_); clear HO; intro wN HO; (try simp only [Act.put, List.setIfInBounds_toArray, List.set_cons_zero, List.set_cons_succ]))
      | ((refine own_store (T := 3) HO rfl rfl rfl rfl (by first | exact .here | exact .there (.here) | exact .there (.there (.here)) | exact .there (.there (.there (.here))) | exact .there (.there (.there (.there (.here)))) | exact .there (.there (.there (.there (.there (.here)))))) Tryd.sizeOf3 (by repeat constructor) rfl ?_); clear HO; intro wN HO; (try simp only [Act.put, List.setIfInBounds_toArray, List.set_cons_zero, List.set_cons_succ]))
      | ((refine own_store (T := 4) HO rfl rfl rfl rfl (by first | exact .here | exact .there (.here) | exact .there (.there (.here)) | exact .there (.there (.there (.here))) | exact .there (.there (.there (.there (.here)))) | exact .there (.there (.there (.there (.there (.here)))))) Tryd.sizeOf4 (by repeat constructor) rfl ?_); clear HO; intro wN HO; (try simp only [Act.put, List.setIfInBounds_toArray, List.set_cons_zero, List.set_cons_succ])))))
      go_ret
      exact ⟨ret_int HGF.out.symm, HO.below⟩
  · have hE := equal_modes on m
    by_cases he : on = m
    · have hgf : getM m p n = 1 := by rw [HG.out]; simp [he]
      have HGF := Lib.hid hgf
      have hd : decide (on = m) = true := decide_eq_true he
      rw [hd] at hE
      have HE := Lib.hid hE
      clear HG hgf hE hd he
      go_wp2_with (first
      | ((with_reducible refine gate ?_); (first
      | ((refine own_eql (t := 39) rfl rfl rfl rfl (by kernel_rfl) HE.out ?_); (try simp only [Act.put, List.setIfInBounds_toArray, List.set_cons_zero, List.set_cons_succ]))
      | ((refine own_box HO rfl rfl rfl ?_); clear HO; intro gN wN hgN HO; (simp only [List.nil_append, List.cons_append] at HO); (try simp only [Act.put, List.setIfInBounds_toArray, List.set_cons_zero, List.set_cons_succ]))
      | ((refine own_alloc (T := 39) HO rfl rfl Tryd.zeroValue39 rfl ?_); clear HO; intro gN wN hgN HO; (simp only [List.nil_append, List.cons_append] at HO); (try simp only [Act.put, List.setIfInBounds_toArray, List.set_cons_zero, List.set_cons_succ]))
      | ((refine own_alloc (T := 3) HO rfl rfl Tryd.zeroValue3 rfl ?_); clear HO; intro gN wN hgN HO; (simp only [List.nil_append, List.cons_append] at HO); (try simp only [Act.put, List.setIfInBounds_toArray, List.set_cons_zero, List.set_cons_succ]))
      | ((refine own_alloc (T := 4) HO rfl rfl Tryd.zeroValue4 rfl ?_); clear HO; intro gN wN hgN HO; (simp only [List.nil_append, List.cons_append] at HO); (try simp only [Act.put, List.setIfInBounds_toArray, List.set_cons_zero, List.set_cons_succ]))
      | ((refine own_load (T := 39) HO rfl rfl rfl (by first | exact .head _ | exact .tail _ (.head _) | exact .tail _ (.tail _ (.head _)) | exact .tail _ (.tail _ (.tail _ (.head _))) | exact .tail _ (.tail _ (.tail _ (.tail _ (.head _)))) | exact .tail _ (.tail _ (.tail _ (.tail _ (.tail _ (.head _)))))) Tryd.isAgg39 Tryd.sizeOf39 (by repeat constructor) ?_); (try simp only [Act.put, List.setIfInBounds_toArray, List.set_cons_zero, List.set_cons_succ]))
      | ((refine own_load1 (T := 3) HO rfl rfl rfl (by first | exact .head _ | exact .tail _ (.head _) | exact .tail _ (.tail _ (.head _)) | exact .tail _ (.tail _ (.tail _ (.head _))) | exact .tail _ (.tail _ (.tail _ (.tail _ (.head _)))) | exact .tail _ (.tail _ (.tail _ (.tail _ (.tail _ (.head _)))))) Tryd.isAgg3 rfl ?_); (try simp only [Act.put, List.setIfInBounds_toArray, List.set_cons_zero, List.set_cons_succ]))
      | ((refine own_load1 (T := 4) HO rfl rfl rfl (by first | exact .head _ | exact .tail _ (.head _) | exact .tail _ (.tail _ (.head _)) | exact .tail _ (.tail _ (.tail _ (.head _))) | exact .tail _ (.tail _ (.tail _ (.tail _ (.head _)))) | exact .tail _ (.tail _ (.tail _ (.tail _ (.tail _ (.head _)))))) Tryd.isAgg4 rfl ?_); (try simp only [Act.put, List.setIfInBounds_toArray, List.set_cons_zero, List.set_cons_succ]))
      | ((refine own_store (T := 39) HO rfl rfl rfl rfl (by first | exact .here | exact .there (.here) | exact .there (.there (.here)) | exact .there (.there (.there (.here))) | exact .there (.there (.there (.there (.here)))) | exact .there (.there (.there (.there (.there (.here)))))) Tryd.sizeOf39 (by repeat constructor) rfl ?_); clear HO; intro wN HO; (try simp only [Act.put, List.setIfInBounds_toArray, List.set_cons_zero, List.set_cons_succ]))
      | ((refine own_store (T := 3) HO rfl rfl rfl rfl (by first | exact .here | exact .there (.here) | exact .there (.there (.here)) | exact .there (.there (.there (.here))) | exact .there (.there (.there (.there (.here)))) | exact .there (.there (.there (.there (.there (.here)))))) Tryd.sizeOf3 (by repeat constructor) rfl ?_); clear HO; intro wN HO; (try simp only [Act.put, List.setIfInBounds_toArray, List.set_cons_zero, List.set_cons_succ]))
      | ((refine own_store (T := 4) HO rfl rfl rfl rfl (by first | exact .here | exact .there (.here) | exact .there (.there (.here)) | exact .there (.there (.there (.here))) | exact .there (.there (.there (.there (.here)))) | exact .there (.there (.there (.there (.there (.here)))))) Tryd.sizeOf4 (by repeat constructor) rfl ?_); clear HO; intro wN HO; (try simp only [Act.put, List.setIfInBounds_toArray, List.set_cons_zero, List.set_cons_succ])))))
      go_ret
      exact ⟨ret_int HGF.out.symm, HO.below⟩
    · have hgf : getM m p n = 2 := by rw [HG.out]; simp [he]
      have HGF := Lib.hid hgf
      have hd : decide (on = m) = false := decide_eq_false he
      rw [hd] at hE
      have HE := Lib.hid hE
      clear HG hgf hE hd he
      go_wp2_with (first
      | ((with_reducible refine gate ?_); (first
      | ((refine own_eql (t := 39) rfl rfl rfl rfl (by kernel_rfl) HE.out ?_); (try simp only [Act.put, List.setIfInBounds_toArray, List.set_cons_zero, List.set_cons_succ]))
      | ((refine own_box HO rfl rfl rfl ?_); clear HO; intro gN wN hgN HO; (simp only [List.nil_append, List.cons_append] at HO); (try simp only [Act.put, List.setIfInBounds_toArray, List.set_cons_zero, List.set_cons_succ]))
      | ((refine own_alloc (T := 39) HO rfl rfl Tryd.zeroValue39 rfl ?_); clear HO; intro gN wN hgN HO; (simp only [List.nil_append, List.cons_append] at HO); (try simp only [Act.put, List.setIfInBounds_toArray, List.set_cons_zero, List.set_cons_succ]))
      | ((refine own_alloc (T := 3) HO rfl rfl Tryd.zeroValue3 rfl ?_); clear HO; intro gN wN hgN HO; (simp only [List.nil_append, List.cons_append] at HO); (try simp only [Act.put, List.setIfInBounds_toArray, List.set_cons_zero, List.set_cons_succ]))
      | ((refine own_alloc (T := 4) HO rfl rfl Tryd.zeroValue4 rfl ?_); clear HO; intro gN wN hgN HO; (simp only [List.nil_append, List.cons_append] at HO); (try simp only [Act.put, List.setIfInBounds_toArray, List.set_cons_zero, List.set_cons_succ]))
      | ((refine own_load (T := 39) HO rfl rfl rfl (by first | exact .head _ | exact .tail _ (.head _) | exact .tail _ (.tail _ (.head _)) | exact .tail _ (.tail _ (.tail _ (.head _))) | exact .tail _ (.tail _ (.tail _ (.tail _ (.head _)))) | exact .tail _ (.tail _ (.tail _ (.tail _ (.tail _ (.head _)))))) Tryd.isAgg39 Tryd.sizeOf39 (by repeat constructor) ?_); (try simp only [Act.put, List.setIfInBounds_toArray, List.set_cons_zero, List.set_cons_succ]))
      | ((refine own_load1 (T := 3) HO rfl rfl rfl (by first | exact .head _ | exact .tail _ (.head _) | exact .tail _ (.tail _ (.head _)) | exact .tail _ (.tail _ (.tail _ (.head _))) | exact .tail _ (.tail _ (.tail _ (.tail _ (.head _)))) | exact .tail _ (.tail _ (.tail _ (.tail _ (.tail _ (.head _)))))) Tryd.isAgg3 rfl ?_); (try simp only [Act.put, List.setIfInBounds_toArray, List.set_cons_zero, List.set_cons_succ]))
      | ((refine own_load1 (T := 4) HO rfl rfl rfl (by first | exact .head _ | exact .tail _ (.head _) | exact .tail _ (.tail _ (.head _)) | exact .tail _ (.tail _ (.tail _ (.head _))) | exact .tail _ (.tail _ (.tail _ (.tail _ (.head _)))) | exact .tail _ (.tail _ (.tail _ (.tail _ (.tail _ (.head _)))))) Tryd.isAgg4 rfl ?_); (try simp only [Act.put, List.setIfInBounds_toArray, List.set_cons_zero, List.set_cons_succ]))
      | ((refine own_store (T := 39) HO rfl rfl rfl rfl (by first | exact .here | exact .there (.here) | exact .there (.there (.here)) | exact .there (.there (.there (.here))) | exact .there (.there (.there (.there (.here)))) | exact .there (.there (.there (.there (.there (.here)))))) Tryd.sizeOf39 (by repeat constructor) rfl ?_); clear HO; intro wN HO; (try simp only [Act.put, List.setIfInBounds_toArray, List.set_cons_zero, List.set_cons_succ]))
      | ((refine own_store (T := 3) HO rfl rfl rfl rfl (by first | exact .here | exact .there (.here) | exact .there (.there (.here)) | exact .there (.there (.there (.here))) | exact .there (.there (.there (.there (.here)))) | exact .there (.there (.there (.there (.there (.here)))))) Tryd.sizeOf3 (by repeat constructor) rfl ?_); clear HO; intro wN HO; (try simp only [Act.put, List.setIfInBounds_toArray, List.set_cons_zero, List.set_cons_succ]))
      | ((refine own_store (T := 4) HO rfl rfl rfl rfl (by first | exact .here | exact .there (.here) | exact .there (.there (.here)) | exact .there (.there (.there (.here))) | exact .there (.there (.there (.there (.here)))) | exact .there (.there (.there (.there (.there (.here)))))) Tryd.sizeOf4 (by repeat constructor) rfl ?_); clear HO; intro wN HO; (try simp only [Act.put, List.setIfInBounds_toArray, List.set_cons_zero, List.set_cons_succ])))))
      go_ret
      exact ⟨ret_int HGF.out.symm, HO.below⟩
end Go.Proofs.YtopcleljecdkkaaDoor
end
section
namespace Go.Proofs.YtopcleljecdkkaaDoor
set_option linter.unusedVariables false
set_option linter.unusedSimpArgs false
open Go.RowKit Kit Go.Proofs.YtopcleljecdkkaaDoorW.PrintWords
attribute [local irreducible] wpList Calls
theorem field_now (w : World) (x y : Value) : (Instr.field 66 (.agg #[x, y]) 0).run Tryd.prog w = .ok x w := by
  simp [Instr.field, Sem.run_bind, run_underlying Tryd.underlying66, part, Tryd.isAgg3, asAgg]
set_option maxRecDepth 100000 in
set_option maxHeartbeats 2000000 in
theorem flags_calls (n fv : Int) (w : World) (hf : ∀ W, Calls Tryd.prog 68 #[.int .i64 n] W fun e w' => e = .returned (.int .i64 fv) ∧ Below W.heap.size W w') (hnum : NumAt 63 117 [fv] 1 w) :
    Calls Tryd.prog 20 #[.int .i64 n] w fun e w' => ∃ v, e = .returned (seqV 1 63 v ⟨#[]⟩ 117 ⟨#[]⟩) ∧ Kd.S (Kd.slice 3 (Kd.int .i64)) 52 w' w.heap.size (fun _ => True) v [[fv]] ∧ Below w.heap.size w w' := by
  have HO := Mine.start w
  have hu1 := field_now
  have HX : (fun _ : World => True) w := trivial
  have HXB : XB (fun _ : World => True) := fun _ _ _ _ => trivial
  have HXS : XS 30 (fun _ : World => True) := fun _ _ _ _ _ _ => trivial
  have HP := Lib.hid (fun W => push_calls 0 n fv none 0 [] W (by decide) (Reads.nil _ _) hf)
  have HN := Lib.hid hnum
  clear hf hnum
  go_enter Tryd.func20, Tryd.ntmps20
  go_wp2_with (first
      | (go_at_call 47; refine (HP.out _).mono ?_; rintro eN wN ⟨A', c', rfl, _, _, hbN⟩; have HON := HO.call hbN; clear HO hbN; have HO := HON; clear HON; clear HX; have HX : (fun _ : World => True) wN := trivial)
      | (go_at_call 30; refine (HN.out _ gL HO.below (HO.at (.tail _ (.head _)))).mono ?_; rintro eN wN ⟨vR, rfl, hS, hbN⟩; have hS2 := Kd.S_lower hS HO.below.size; have HON := HO.call hbN; clear HO hbN HX HXB HXS; have HO := HON; clear HON; obtain ⟨vA, vc, rfl⟩ := Kd.S_slice hS2; (have HX : (fun w' => Kd.S (Kd.slice 3 (Kd.int .i64)) 52 w' w.heap.size (fun _ => True) (.slice vA 1 vc) [[fv]]) wN := hS2); clear hS hS2; (have HXS := XS.rows (Kd.slice 3 (Kd.int .i64)) 52 w.heap.size (fun _ => True) (.slice vA 1 vc) [[fv]] (T := 30) (by decide)); unfold seqV; (try simp only [Act.put, List.setIfInBounds_toArray, List.set_cons_zero, List.set_cons_succ]))
      | ((with_reducible refine gate ?_); (first
      | ((with_reducible refine gateAt (N := 7) rfl ?_); refine own_litX HO HX HXB rfl (n := 1) (cs := [.int .i64 fv]) (T := 3) (by first | (go_simp; done) | (go_simp; rfl)) ?_; clear HO HX; intro gL wN hgL HO HX; (simp only [List.nil_append, List.cons_append] at HO); (try simp only [Act.put, List.setIfInBounds_toArray, List.set_cons_zero, List.set_cons_succ]))
      | ((refine own_boxX HO HX HXB rfl rfl rfl ?_); clear HO HX; intro gN wN hgN HO HX; (simp only [List.nil_append, List.cons_append] at HO); (try simp only [Act.put, List.setIfInBounds_toArray, List.set_cons_zero, List.set_cons_succ]))
      | ((refine own_allocX (T := 30) HO HX HXB rfl rfl Tryd.zeroValue30 rfl ?_); clear HO HX; intro gN wN hgN HO HX; (simp only [List.nil_append, List.cons_append] at HO); (try simp only [Act.put, List.setIfInBounds_toArray, List.set_cons_zero, List.set_cons_succ]))
      | ((refine own_load (T := 30) HO rfl rfl rfl (by first | exact .head _ | exact .tail _ (.head _) | exact .tail _ (.tail _ (.head _)) | exact .tail _ (.tail _ (.tail _ (.head _))) | exact .tail _ (.tail _ (.tail _ (.tail _ (.head _)))) | exact .tail _ (.tail _ (.tail _ (.tail _ (.tail _ (.head _)))))) Tryd.isAgg30 Tryd.sizeOf30 (by repeat constructor) ?_); (try simp only [Act.put, List.setIfInBounds_toArray, List.set_cons_zero, List.set_cons_succ]))
      | ((refine own_storeX (T := 30) HO HX rfl rfl rfl rfl (by first | exact .here | exact .there (.here) | exact .there (.there (.here)) | exact .there (.there (.there (.here))) | exact .there (.there (.there (.there (.here)))) | exact .there (.there (.there (.there (.there (.here)))))) HXS Tryd.sizeOf30 (by repeat constructor) rfl ?_); clear HO HX; intro wN HO HX; (try simp only [Act.put, List.setIfInBounds_toArray, List.set_cons_zero, List.set_cons_succ])))))
  exact bodyPost_ret (own_results1 HO Tryd.results20 rfl (by first | exact .head _ | exact .tail _ (.head _) | exact .tail _ (.tail _ (.head _)) | exact .tail _ (.tail _ (.tail _ (.head _))) | exact .tail _ (.tail _ (.tail _ (.tail _ (.head _)))) | exact .tail _ (.tail _ (.tail _ (.tail _ (.tail _ (.head _)))))) Tryd.isAgg30 Tryd.sizeOf30 (by repeat constructor)) rfl ⟨_, rfl, HX, HO.below⟩
end Go.Proofs.YtopcleljecdkkaaDoor
end
section
namespace Go.Proofs.YtopcleljecdkkaaDoor.G
open Go.RowKit Go.Proofs.YtopcleljecdkkaaDoorW.PrintWords Go.Proofs.YtopcleljecdkkaaDoorW.PrintLast Go.Proofs.YtopcleljecdkkaaDoorW.PrintMore
attribute [local go_sem] max2_int min2_int max_two min_two max_three min_three max_four min_four
set_option linter.unusedVariables false
set_option linter.unusedSimpArgs false
def report_Attributes.f (k : Nat) (a0 : Int) : Option (Int × Int × (List (List Int)) × ByteArray × Int × ByteArray) := if a0 = 0 then ((wire_Num.f k 63 99 (([62, 22] : List Int))).bind fun bt405 => (some (bt405.1, bt405.2.1, bt405.2.2.1, bt405.2.2.2.1, bt405.2.2.2.2.1, bt405.2.2.2.2.2))) else (if a0 = 62 then ((wire_Num.f k 62 99 (([41, 1, 0] : List Int))).bind fun bt416 => (some (bt416.1, bt416.2.1, bt416.2.2.1, bt416.2.2.2.1, bt416.2.2.2.2.1, bt416.2.2.2.2.2))) else (if a0 = 61 then (some (3, 0, ([] : List (List Int)), (⟨#[33]⟩ : ByteArray), 124, (⟨#[48, 48, 48, 48, 48, 48, 48, 48]⟩ : ByteArray))) else (some (0, 0, ([] : List (List Int)), (⟨#[]⟩ : ByteArray), 0, (⟨#[]⟩ : ByteArray)))))
theorem report_Attributes.mono : ∀ a0 k, LeO (report_Attributes.f k a0) (report_Attributes.f (k + 1) a0) := by
  intro a0 k
  unfold report_Attributes.f
  repeat' first
      | (with_reducible exact wire_Num.mono _ _ _ _)
      | (with_reducible exact LeO.refl _)
      | (with_reducible exact LeO.none _)
      | (with_reducible refine LeO.ite ?_ ?_)
      | (with_reducible refine LeO.bind ?_ (fun _ => ?_))
      | exact wire_Num.mono _ _ _ _
      | exact LeO.none _
      | refine LeO.ite ?_ ?_
      | refine LeO.bind ?_ (fun _ => ?_)
set_option maxHeartbeats 8000000 in
set_option maxRecDepth 100000 in
theorem report_Attributes.calls (k : Nat) (a0 : Int) (r1 : Int) (r2 : Int) (r3 : List (List Int)) (r4 : ByteArray) (r5 : Int) (r6 : ByteArray) (w : World) (h : report_Attributes.f k a0 = some (r1, r2, r3, r4, r5, r6)) :
    Calls Tryd.prog 16 #[.int .u8 a0] w fun e w' => ∃ v2_ : Value, e = .returned (.agg #[.int .i64 r1, .int .u8 r2, v2_, .string r4, .int .u8 r5, .string r6]) ∧ Kd.S (Kd.slice 3 (Kd.int .i64)) 52 w' w.heap.size (fun _ => True) v2_ r3 ∧ Below w.heap.size w w' := by
  have hu30 := Tryd.underlying30
  have HB := Aside0.mk (Below.refl w.heap.size w)
  have H : (if a0 = 0 then ((wire_Num.f k 63 99 (([62, 22] : List Int))).bind fun bt405 => (some (bt405.1, bt405.2.1, bt405.2.2.1, bt405.2.2.2.1, bt405.2.2.2.2.1, bt405.2.2.2.2.2))) else (if a0 = 62 then ((wire_Num.f k 62 99 (([41, 1, 0] : List Int))).bind fun bt416 => (some (bt416.1, bt416.2.1, bt416.2.2.1, bt416.2.2.2.1, bt416.2.2.2.2.1, bt416.2.2.2.2.2))) else (if a0 = 61 then (some (3, 0, ([] : List (List Int)), (⟨#[33]⟩ : ByteArray), 124, (⟨#[48, 48, 48, 48, 48, 48, 48, 48]⟩ : ByteArray))) else (some (0, 0, ([] : List (List Int)), (⟨#[]⟩ : ByteArray), 0, (⟨#[]⟩ : ByteArray)))))) = some (r1, r2, r3, r4, r5, r6) := h
  clear h
  by_cases c2 : a0 = 0
  · rw [if_pos c2] at H
    have c2b0 : (a0 == 0) = true := beq_iff_eq.mpr c2
    have c2b1 : (a0 != 0) = false := bne_eq_false_iff_eq.mpr c2
    clear c2
    obtain ⟨y402, hy402⟩ : ∃ y_ : List Int, y_ = (([62, 22] : List Int)) := ⟨_, rfl⟩
    replace H : ((wire_Num.f k 63 99 y402).bind fun bt405 => (some (bt405.1, bt405.2.1, bt405.2.2.1, bt405.2.2.2.1, bt405.2.2.2.2.1, bt405.2.2.2.2.2))) = some (r1, r2, r3, r4, r5, r6) := by first | (rw [hy402]; with_reducible exact H) | (have H2_ := (Option.bind_some _ _).symm.trans H; rw [hy402]; with_reducible exact H2_) | (have H2_ := (Option.bind_some _ _).symm.trans H; with_reducible exact H2_) | with_reducible exact H | (rw [hy402]; exact H) | exact H
    have Ny402 := Aside0.mk hy402
    clear hy402
    replace H := Option.bind_eq_some_iff.mp H
    obtain ⟨⟨t405, t406, t407, t410, t411, t412⟩, A30, H⟩ := H
    replace H : (some (t405, t406, t407, t410, t411, t412)) = some (r1, r2, r3, r4, r5, r6) := H
    have A3 := Aside0.mk A30
    clear A30
    simp only [Option.some.injEq, Prod.mk.injEq] at H
    obtain ⟨rfl, rfl, rfl, rfl, rfl, rfl⟩ := H
    go_enter Tryd.func16, Tryd.ntmps16
    go_wp2_with (first | ((with_reducible refine gate_dst (N := 2) rfl ?_); refine box_event ?hg (N := 2) ?hd (cs := #[.int .i64 0, .int .u8 0, .slice none 0 0, .string (⟨#[]⟩ : ByteArray), .int .u8 0, .string (⟨#[]⟩ : ByteArray)]) (t := 30) ?hr ?_; (case hd => rfl); (case hg => rfl); (case hr => first | (go_simp; done) | (go_simp; rfl)); intro gb401 hg w4 hbox hb; have n0_ := Aside0.mk (below_step (by repeat (first | (with_reducible first | exact HB.out | apply la1 | apply ln1 | apply ld1) | exact HB.out)) hb); have n1_ := Aside0.mk (hbox); have n2_ := Aside0.mk ((by rw [hg]; exact (below_size (by repeat (first | (with_reducible first | exact HB.out | apply la1 | apply ln1 | apply ld1) | exact HB.out))) : w.heap.size ≤ gb401)); have n3_ := Aside0.mk ((by rw [hg]; exact (below_size (by repeat (first | (with_reducible first | exact HB.out | apply la1 | apply ln1 | apply ld1) | exact HB.out))) : w.heap.size ≤ gb401)); clear HB; have HB := n0_; have BK401 := n1_; have GW401 := n2_; have GE401 := n3_; clear n0_ n1_ n2_ n3_; clear hb hbox hg) | ((with_reducible refine gate_dst (N := 6) rfl ?_); refine Kd.R_lit (Kd.int .i64) _ 3 ?hg (N := 6) ?hd (xs := ([62, 22] : List Int)) (inner := [.int .i64 62, .int .i64 22]) (ok := fun _ => True) (okp := fun _ => True) ?hr ?hp (fun _ hk => hk) trivial (Below.refl _ _) (Nat.le_refl _) (by simp) ?_; (case hd => rfl); (case hg => rfl); (case hr => first | (go_simp; done) | (go_simp; rfl)); (case hp => exact (Reps.one (show Kd.M (Kd.int .i64) _ _ _ 62 [.int .i64 62] from rfl) (Reps.one (show Kd.M (Kd.int .i64) _ _ _ 22 [.int .i64 22] from rfl) (Reps.none _ _)))); intro v403 w5 ho6 hb hg_ hnew_; clear hg_ hnew_; (first | rw [← Ny402.out] at ho6 | (simp only [Int.reduceToNat] at ho6; rw [← Ny402.out] at ho6)); have n0_ := Aside0.mk (Kd.R_lower ho6 (below_size (by repeat (first | (with_reducible first | exact HB.out | apply la1 | apply ln1 | apply ld1 | refine ls1 ?_ GE401.out) | exact HB.out)))); have n1_ := Aside0.mk (bb1 (g := gb401) (o := .cells #[.int .i64 0, .int .u8 0, .slice none 0 0, .string (⟨#[]⟩ : ByteArray), .int .u8 0, .string (⟨#[]⟩ : ByteArray)] 30 (0, 0)) (by (with_reducible repeat (first | refine bn1 ?_ _ | refine bd1 ?_ | refine ba1 ?_ _)); exact BK401.out) hb); have n2_ := Aside0.mk (below_step (by repeat (first | (with_reducible first | exact HB.out | apply la1 | apply ln1 | apply ld1 | refine ls1 ?_ GE401.out) | exact HB.out)) hb); clear BK401; clear HB; have HO404 := n0_; have BK401 := n1_; have HB := n2_; clear n0_ n1_ n2_; clear hb ho6; obtain ⟨Ao7, co7, eo7⟩ := Kd.R_slice HO404.out; subst eo7) | ((with_reducible refine gate_callee (f := 30) rfl ?_); refine goesL_ (some 7) rfl rfl Tryd.func30 (by kernel_rfl) rfl #[.int .u8 63, .int .u8 99, .slice Ao7 y402.length co7] rfl (by (try simp only [List.map_toArray, List.map_cons, List.map_nil]); first | done | rfl | (simp only [List.length_drop, List.length_take]; rfl)) ?_; (with_reducible refine (wire_Num.calls k 63 99 _ _ y402 t405 t406 t407 t410 t411 t412 _ ?side1 ?side2 A3.out).mono ?_); (case side1 => repeat (first | exact (Kd.R_reads' HO404.out).2.2 | (with_reducible refine Kd.C_alloc ?_ _) | (with_reducible refine Kd.C_drewN ?_ _) | (with_reducible refine Kd.C_drew ?_))); (case side2 => exact (Kd.R_reads' HO404.out).2.1); rintro e w8 ⟨v408, rfl, ho0, hb⟩; refine ⟨_, rfl, ?_⟩; have n0_ := Aside0.mk (Kd.R_below (by (with_reducible repeat (first | apply Kd.R_alloc | apply Kd.R_drewN | apply Kd.R_drew)); exact HO404.out) hb); have n1_ := Aside0.mk (Kd.S_lower (Kd.S_new' ho0 (Kd.R_lt (by (with_reducible repeat (first | apply Kd.R_alloc | apply Kd.R_drewN | apply Kd.R_drew)); exact HO404.out))) (below_size (by repeat (first | (with_reducible first | exact HB.out | apply la1 | apply ln1 | apply ld1 | refine ls1 ?_ GE401.out) | exact HB.out)))); have n2_ := Aside0.mk (bb1 (g := gb401) (o := .cells #[.int .i64 0, .int .u8 0, .slice none 0 0, .string (⟨#[]⟩ : ByteArray), .int .u8 0, .string (⟨#[]⟩ : ByteArray)] 30 (0, 0)) (by (with_reducible repeat (first | refine bn1 ?_ _ | refine bd1 ?_ | refine ba1 ?_ _)); exact BK401.out) hb); have n3_ := Aside0.mk (below_step (by repeat (first | (with_reducible first | exact HB.out | apply la1 | apply ln1 | apply ld1 | refine ls1 ?_ GE401.out) | exact HB.out)) hb); clear HO404; clear BK401; clear HB; have HO404 := n0_; have HO409 := n1_; have BK401 := n2_; have HB := n3_; clear n0_ n1_ n2_ n3_; (try clear hb); (try clear hb2); (try clear hk); (try clear hi); (try clear ho0); have hcz9_0 : w8.cell? ⟨gb401, 0, none⟩ = some (.int .i64 0) := (bc1 BK401.out 0).trans rfl; have hcz9_1 : w8.cell? ⟨gb401, 1, none⟩ = some (.int .u8 0) := (bc1 BK401.out 1).trans rfl; have hcz9_2 : w8.cell? ⟨gb401, 2, none⟩ = some (.slice none 0 0) := (bc1 BK401.out 2).trans rfl; have hcz9_3 : w8.cell? ⟨gb401, 3, none⟩ = some (.string (⟨#[]⟩ : ByteArray)) := (bc1 BK401.out 3).trans rfl; have hcz9_4 : w8.cell? ⟨gb401, 4, none⟩ = some (.int .u8 0) := (bc1 BK401.out 4).trans rfl; have hcz9_5 : w8.cell? ⟨gb401, 5, none⟩ = some (.string (⟨#[]⟩ : ByteArray)) := (bc1 BK401.out 5).trans rfl; have hfz9_0 := bz1 BK401.out 0; have hfz9_1 := bz1 BK401.out 1; have hfz9_2 := bz1 BK401.out 2; have hfz9_3 := bz1 BK401.out 3; have hfz9_4 := bz1 BK401.out 4; have hfz9_5 := bz1 BK401.out 5; obtain ⟨Ao10, co10, eo10⟩ := Kd.S_slice HO409.out; subst eo10))
    refine bodyPost_ret (results_cell_row rfl _ _ gb401 30 #[.int .i64 t405, .int .u8 t406, .slice Ao10 t407.length co10, .string t410, .int .u8 t411, .string t412] (0, 0) _ rfl (by (with_reducible repeat (first | refine bn1 ?_ _ | refine bd1 ?_ | refine ba1 ?_ _)); refine bp1 (cs := #[.int .i64 t405, .int .u8 t406, .slice Ao10 t407.length co10, .string t410, .int .u8 t411, .string (⟨#[]⟩ : ByteArray)]) ?_ 5 _ rfl; (with_reducible repeat (first | refine bn1 ?_ _ | refine bd1 ?_ | refine ba1 ?_ _)); refine bp1 (cs := #[.int .i64 t405, .int .u8 t406, .slice Ao10 t407.length co10, .string t410, .int .u8 0, .string (⟨#[]⟩ : ByteArray)]) ?_ 4 _ rfl; (with_reducible repeat (first | refine bn1 ?_ _ | refine bd1 ?_ | refine ba1 ?_ _)); refine bp1 (cs := #[.int .i64 t405, .int .u8 t406, .slice Ao10 t407.length co10, .string (⟨#[]⟩ : ByteArray), .int .u8 0, .string (⟨#[]⟩ : ByteArray)]) ?_ 3 _ rfl; (with_reducible repeat (first | refine bn1 ?_ _ | refine bd1 ?_ | refine ba1 ?_ _)); refine bp1 (cs := #[.int .i64 t405, .int .u8 t406, .slice none 0 0, .string (⟨#[]⟩ : ByteArray), .int .u8 0, .string (⟨#[]⟩ : ByteArray)]) ?_ 2 _ rfl; (with_reducible repeat (first | refine bn1 ?_ _ | refine bd1 ?_ | refine ba1 ?_ _)); refine bp1 (cs := #[.int .i64 t405, .int .u8 0, .slice none 0 0, .string (⟨#[]⟩ : ByteArray), .int .u8 0, .string (⟨#[]⟩ : ByteArray)]) ?_ 1 _ rfl; (with_reducible repeat (first | refine bn1 ?_ _ | refine bd1 ?_ | refine ba1 ?_ _)); refine bp1 (cs := #[.int .i64 0, .int .u8 0, .slice none 0 0, .string (⟨#[]⟩ : ByteArray), .int .u8 0, .string (⟨#[]⟩ : ByteArray)]) ?_ 0 _ rfl; (with_reducible repeat (first | refine bn1 ?_ _ | refine bd1 ?_ | refine ba1 ?_ _)); exact BK401.out) Tryd.underlying30 rfl (by kernel_rfl)) rfl ?_
    exact ⟨_, by first | rfl | (simp [errW_none, errW_some] <;> rfl) | (simp [*, errW_none, errW_some] <;> rfl), by (with_reducible repeat (first | apply Kd.S_alloc | apply Kd.S_drewN | apply Kd.S_drew)); exact Kd.S_mono (Kd.S_far (p := ⟨gb401, 5, none⟩) (Kd.S_far (p := ⟨gb401, 4, none⟩) (Kd.S_far (p := ⟨gb401, 3, none⟩) (Kd.S_far (p := ⟨gb401, 2, none⟩) (Kd.S_far (p := ⟨gb401, 1, none⟩) (Kd.S_far (p := ⟨gb401, 0, none⟩) (Kd.S_types HO409.out BK401.out (by decide)) (fun _ hk => hk.2) (.int .i64 t405)) (fun _ hk => hk.2) (.int .u8 t406)) (fun _ hk => hk.2) (.slice Ao10 t407.length co10)) (fun _ hk => hk.2) (.string t410)) (fun _ hk => hk.2) (.int .u8 t411)) (fun _ hk => hk.2) (.string t412)) (fun _ hk => trivial), by repeat (first | (with_reducible first | exact HB.out | apply la1 | apply ln1 | apply ld1 | refine ls1 ?_ GE401.out) | exact HB.out)⟩
  · rw [if_neg c2] at H
    have c2b0 : (a0 == 0) = false := beq_eq_false_iff_ne.mpr c2
    have c2b1 : (a0 != 0) = true := bne_iff_ne.mpr c2
    by_cases c11 : a0 = 62
    · rw [if_pos c11] at H
      have c11b0 : (a0 == 62) = true := beq_iff_eq.mpr c11
      have c11b1 : (a0 != 62) = false := bne_eq_false_iff_eq.mpr c11
      clear c11
      obtain ⟨y413, hy413⟩ : ∃ y_ : List Int, y_ = (([41, 1, 0] : List Int)) := ⟨_, rfl⟩
      replace H : ((wire_Num.f k 62 99 y413).bind fun bt416 => (some (bt416.1, bt416.2.1, bt416.2.2.1, bt416.2.2.2.1, bt416.2.2.2.2.1, bt416.2.2.2.2.2))) = some (r1, r2, r3, r4, r5, r6) := by first | (rw [hy413]; with_reducible exact H) | (have H2_ := (Option.bind_some _ _).symm.trans H; rw [hy413]; with_reducible exact H2_) | (have H2_ := (Option.bind_some _ _).symm.trans H; with_reducible exact H2_) | with_reducible exact H | (rw [hy413]; exact H) | exact H
      have Ny413 := Aside0.mk hy413
      clear hy413
      replace H := Option.bind_eq_some_iff.mp H
      obtain ⟨⟨t416, t417, t418, t421, t422, t423⟩, A120, H⟩ := H
      replace H : (some (t416, t417, t418, t421, t422, t423)) = some (r1, r2, r3, r4, r5, r6) := H
      have A12 := Aside0.mk A120
      clear A120
      simp only [Option.some.injEq, Prod.mk.injEq] at H
      obtain ⟨rfl, rfl, rfl, rfl, rfl, rfl⟩ := H
      go_enter Tryd.func16, Tryd.ntmps16
      go_wp2_with (first | ((with_reducible refine gate_dst (N := 2) rfl ?_); refine box_event ?hg (N := 2) ?hd (cs := #[.int .i64 0, .int .u8 0, .slice none 0 0, .string (⟨#[]⟩ : ByteArray), .int .u8 0, .string (⟨#[]⟩ : ByteArray)]) (t := 30) ?hr ?_; (case hd => rfl); (case hg => rfl); (case hr => first | (go_simp; done) | (go_simp; rfl)); intro gb401 hg w13 hbox hb; have n0_ := Aside0.mk (below_step (by repeat (first | (with_reducible first | exact HB.out | apply la1 | apply ln1 | apply ld1) | exact HB.out)) hb); have n1_ := Aside0.mk (hbox); have n2_ := Aside0.mk ((by rw [hg]; exact (below_size (by repeat (first | (with_reducible first | exact HB.out | apply la1 | apply ln1 | apply ld1) | exact HB.out))) : w.heap.size ≤ gb401)); have n3_ := Aside0.mk ((by rw [hg]; exact (below_size (by repeat (first | (with_reducible first | exact HB.out | apply la1 | apply ln1 | apply ld1) | exact HB.out))) : w.heap.size ≤ gb401)); clear HB; have HB := n0_; have BK401 := n1_; have GW401 := n2_; have GE401 := n3_; clear n0_ n1_ n2_ n3_; clear hb hbox hg) | ((with_reducible refine gate_dst (N := 10) rfl ?_); refine Kd.R_lit (Kd.int .i64) _ 3 ?hg (N := 10) ?hd (xs := ([41, 1, 0] : List Int)) (inner := [.int .i64 41, .int .i64 1, .int .i64 0]) (ok := fun _ => True) (okp := fun _ => True) ?hr ?hp (fun _ hk => hk) trivial (Below.refl _ _) (Nat.le_refl _) (by simp) ?_; (case hd => rfl); (case hg => rfl); (case hr => first | (go_simp; done) | (go_simp; rfl)); (case hp => exact (Reps.one (show Kd.M (Kd.int .i64) _ _ _ 41 [.int .i64 41] from rfl) (Reps.one (show Kd.M (Kd.int .i64) _ _ _ 1 [.int .i64 1] from rfl) (Reps.one (show Kd.M (Kd.int .i64) _ _ _ 0 [.int .i64 0] from rfl) (Reps.none _ _))))); intro v414 w14 ho15 hb hg_ hnew_; clear hg_ hnew_; (first | rw [← Ny413.out] at ho15 | (simp only [Int.reduceToNat] at ho15; rw [← Ny413.out] at ho15)); have n0_ := Aside0.mk (Kd.R_lower ho15 (below_size (by repeat (first | (with_reducible first | exact HB.out | apply la1 | apply ln1 | apply ld1 | refine ls1 ?_ GE401.out) | exact HB.out)))); have n1_ := Aside0.mk (bb1 (g := gb401) (o := .cells #[.int .i64 0, .int .u8 0, .slice none 0 0, .string (⟨#[]⟩ : ByteArray), .int .u8 0, .string (⟨#[]⟩ : ByteArray)] 30 (0, 0)) (by (with_reducible repeat (first | refine bn1 ?_ _ | refine bd1 ?_ | refine ba1 ?_ _)); exact BK401.out) hb); have n2_ := Aside0.mk (below_step (by repeat (first | (with_reducible first | exact HB.out | apply la1 | apply ln1 | apply ld1 | refine ls1 ?_ GE401.out) | exact HB.out)) hb); clear BK401; clear HB; have HO415 := n0_; have BK401 := n1_; have HB := n2_; clear n0_ n1_ n2_; clear hb ho15; obtain ⟨Ao16, co16, eo16⟩ := Kd.R_slice HO415.out; subst eo16) | ((with_reducible refine gate_callee (f := 30) rfl ?_); refine goesL_ (some 11) rfl rfl Tryd.func30 (by kernel_rfl) rfl #[.int .u8 62, .int .u8 99, .slice Ao16 y413.length co16] rfl (by (try simp only [List.map_toArray, List.map_cons, List.map_nil]); first | done | rfl | (simp only [List.length_drop, List.length_take]; rfl)) ?_; (with_reducible refine (wire_Num.calls k 62 99 _ _ y413 t416 t417 t418 t421 t422 t423 _ ?side1 ?side2 A12.out).mono ?_); (case side1 => repeat (first | exact (Kd.R_reads' HO415.out).2.2 | (with_reducible refine Kd.C_alloc ?_ _) | (with_reducible refine Kd.C_drewN ?_ _) | (with_reducible refine Kd.C_drew ?_))); (case side2 => exact (Kd.R_reads' HO415.out).2.1); rintro e w17 ⟨v419, rfl, ho0, hb⟩; refine ⟨_, rfl, ?_⟩; have n0_ := Aside0.mk (Kd.R_below (by (with_reducible repeat (first | apply Kd.R_alloc | apply Kd.R_drewN | apply Kd.R_drew)); exact HO415.out) hb); have n1_ := Aside0.mk (Kd.S_lower (Kd.S_new' ho0 (Kd.R_lt (by (with_reducible repeat (first | apply Kd.R_alloc | apply Kd.R_drewN | apply Kd.R_drew)); exact HO415.out))) (below_size (by repeat (first | (with_reducible first | exact HB.out | apply la1 | apply ln1 | apply ld1 | refine ls1 ?_ GE401.out) | exact HB.out)))); have n2_ := Aside0.mk (bb1 (g := gb401) (o := .cells #[.int .i64 0, .int .u8 0, .slice none 0 0, .string (⟨#[]⟩ : ByteArray), .int .u8 0, .string (⟨#[]⟩ : ByteArray)] 30 (0, 0)) (by (with_reducible repeat (first | refine bn1 ?_ _ | refine bd1 ?_ | refine ba1 ?_ _)); exact BK401.out) hb); have n3_ := Aside0.mk (below_step (by repeat (first | (with_reducible first | exact HB.out | apply la1 | apply ln1 | apply ld1 | refine ls1 ?_ GE401.out) | exact HB.out)) hb); clear HO415; clear BK401; clear HB; have HO415 := n0_; have HO420 := n1_; have BK401 := n2_; have HB := n3_; clear n0_ n1_ n2_ n3_; (try clear hb); (try clear hb2); (try clear hk); (try clear hi); (try clear ho0); have hcz18_0 : w17.cell? ⟨gb401, 0, none⟩ = some (.int .i64 0) := (bc1 BK401.out 0).trans rfl; have hcz18_1 : w17.cell? ⟨gb401, 1, none⟩ = some (.int .u8 0) := (bc1 BK401.out 1).trans rfl; have hcz18_2 : w17.cell? ⟨gb401, 2, none⟩ = some (.slice none 0 0) := (bc1 BK401.out 2).trans rfl; have hcz18_3 : w17.cell? ⟨gb401, 3, none⟩ = some (.string (⟨#[]⟩ : ByteArray)) := (bc1 BK401.out 3).trans rfl; have hcz18_4 : w17.cell? ⟨gb401, 4, none⟩ = some (.int .u8 0) := (bc1 BK401.out 4).trans rfl; have hcz18_5 : w17.cell? ⟨gb401, 5, none⟩ = some (.string (⟨#[]⟩ : ByteArray)) := (bc1 BK401.out 5).trans rfl; have hfz18_0 := bz1 BK401.out 0; have hfz18_1 := bz1 BK401.out 1; have hfz18_2 := bz1 BK401.out 2; have hfz18_3 := bz1 BK401.out 3; have hfz18_4 := bz1 BK401.out 4; have hfz18_5 := bz1 BK401.out 5; obtain ⟨Ao19, co19, eo19⟩ := Kd.S_slice HO420.out; subst eo19))
      refine bodyPost_ret (results_cell_row rfl _ _ gb401 30 #[.int .i64 t416, .int .u8 t417, .slice Ao19 t418.length co19, .string t421, .int .u8 t422, .string t423] (0, 0) _ rfl (by (with_reducible repeat (first | refine bn1 ?_ _ | refine bd1 ?_ | refine ba1 ?_ _)); refine bp1 (cs := #[.int .i64 t416, .int .u8 t417, .slice Ao19 t418.length co19, .string t421, .int .u8 t422, .string (⟨#[]⟩ : ByteArray)]) ?_ 5 _ rfl; (with_reducible repeat (first | refine bn1 ?_ _ | refine bd1 ?_ | refine ba1 ?_ _)); refine bp1 (cs := #[.int .i64 t416, .int .u8 t417, .slice Ao19 t418.length co19, .string t421, .int .u8 0, .string (⟨#[]⟩ : ByteArray)]) ?_ 4 _ rfl; (with_reducible repeat (first | refine bn1 ?_ _ | refine bd1 ?_ | refine ba1 ?_ _)); refine bp1 (cs := #[.int .i64 t416, .int .u8 t417, .slice Ao19 t418.length co19, .string (⟨#[]⟩ : ByteArray), .int .u8 0, .string (⟨#[]⟩ : ByteArray)]) ?_ 3 _ rfl; (with_reducible repeat (first | refine bn1 ?_ _ | refine bd1 ?_ | refine ba1 ?_ _)); refine bp1 (cs := #[.int .i64 t416, .int .u8 t417, .slice none 0 0, .string (⟨#[]⟩ : ByteArray), .int .u8 0, .string (⟨#[]⟩ : ByteArray)]) ?_ 2 _ rfl; (with_reducible repeat (first | refine bn1 ?_ _ | refine bd1 ?_ | refine ba1 ?_ _)); refine bp1 (cs := #[.int .i64 t416, .int .u8 0, .slice none 0 0, .string (⟨#[]⟩ : ByteArray), .int .u8 0, .string (⟨#[]⟩ : ByteArray)]) ?_ 1 _ rfl; (with_reducible repeat (first | refine bn1 ?_ _ | refine bd1 ?_ | refine ba1 ?_ _)); refine bp1 (cs := #[.int .i64 0, .int .u8 0, .slice none 0 0, .string (⟨#[]⟩ : ByteArray), .int .u8 0, .string (⟨#[]⟩ : ByteArray)]) ?_ 0 _ rfl; (with_reducible repeat (first | refine bn1 ?_ _ | refine bd1 ?_ | refine ba1 ?_ _)); exact BK401.out) Tryd.underlying30 rfl (by kernel_rfl)) rfl ?_
      exact ⟨_, by first | rfl | (simp [errW_none, errW_some] <;> rfl) | (simp [*, errW_none, errW_some] <;> rfl), by (with_reducible repeat (first | apply Kd.S_alloc | apply Kd.S_drewN | apply Kd.S_drew)); exact Kd.S_mono (Kd.S_far (p := ⟨gb401, 5, none⟩) (Kd.S_far (p := ⟨gb401, 4, none⟩) (Kd.S_far (p := ⟨gb401, 3, none⟩) (Kd.S_far (p := ⟨gb401, 2, none⟩) (Kd.S_far (p := ⟨gb401, 1, none⟩) (Kd.S_far (p := ⟨gb401, 0, none⟩) (Kd.S_types HO420.out BK401.out (by decide)) (fun _ hk => hk.2) (.int .i64 t416)) (fun _ hk => hk.2) (.int .u8 t417)) (fun _ hk => hk.2) (.slice Ao19 t418.length co19)) (fun _ hk => hk.2) (.string t421)) (fun _ hk => hk.2) (.int .u8 t422)) (fun _ hk => hk.2) (.string t423)) (fun _ hk => trivial), by repeat (first | (with_reducible first | exact HB.out | apply la1 | apply ln1 | apply ld1 | refine ls1 ?_ GE401.out) | exact HB.out)⟩
    · rw [if_neg c11] at H
      have c11b0 : (a0 == 62) = false := beq_eq_false_iff_ne.mpr c11
      have c11b1 : (a0 != 62) = true := bne_iff_ne.mpr c11
      by_cases c20 : a0 = 61
      · rw [if_pos c20] at H
        have c20b0 : (a0 == 61) = true := beq_iff_eq.mpr c20
        have c20b1 : (a0 != 61) = false := bne_eq_false_iff_eq.mpr c20
        clear c20
        simp only [Option.some.injEq, Prod.mk.injEq] at H
        obtain ⟨rfl, rfl, rfl, rfl, rfl, rfl⟩ := H
        go_enter Tryd.func16, Tryd.ntmps16
        go_wp2_with (first | ((with_reducible refine gate_dst (N := 2) rfl ?_); refine box_event ?hg (N := 2) ?hd (cs := #[.int .i64 0, .int .u8 0, .slice none 0 0, .string (⟨#[]⟩ : ByteArray), .int .u8 0, .string (⟨#[]⟩ : ByteArray)]) (t := 30) ?hr ?_; (case hd => rfl); (case hg => rfl); (case hr => first | (go_simp; done) | (go_simp; rfl)); intro gb401 hg w21 hbox hb; have n0_ := Aside0.mk (below_step (by repeat (first | (with_reducible first | exact HB.out | apply la1 | apply ln1 | apply ld1) | exact HB.out)) hb); have n1_ := Aside0.mk (hbox); have n2_ := Aside0.mk ((by rw [hg]; exact (below_size (by repeat (first | (with_reducible first | exact HB.out | apply la1 | apply ln1 | apply ld1) | exact HB.out))) : w.heap.size ≤ gb401)); have n3_ := Aside0.mk ((by rw [hg]; exact (below_size (by repeat (first | (with_reducible first | exact HB.out | apply la1 | apply ln1 | apply ld1) | exact HB.out))) : w.heap.size ≤ gb401)); clear HB; have HB := n0_; have BK401 := n1_; have GW401 := n2_; have GE401 := n3_; clear n0_ n1_ n2_ n3_; clear hb hbox hg; have hcz22_0 : w21.cell? ⟨gb401, 0, none⟩ = some (.int .i64 0) := (bc1 BK401.out 0).trans rfl; have hcz22_1 : w21.cell? ⟨gb401, 1, none⟩ = some (.int .u8 0) := (bc1 BK401.out 1).trans rfl; have hcz22_2 : w21.cell? ⟨gb401, 2, none⟩ = some (.slice none 0 0) := (bc1 BK401.out 2).trans rfl; have hcz22_3 : w21.cell? ⟨gb401, 3, none⟩ = some (.string (⟨#[]⟩ : ByteArray)) := (bc1 BK401.out 3).trans rfl; have hcz22_4 : w21.cell? ⟨gb401, 4, none⟩ = some (.int .u8 0) := (bc1 BK401.out 4).trans rfl; have hcz22_5 : w21.cell? ⟨gb401, 5, none⟩ = some (.string (⟨#[]⟩ : ByteArray)) := (bc1 BK401.out 5).trans rfl; have hfz22_0 := bz1 BK401.out 0; have hfz22_1 := bz1 BK401.out 1; have hfz22_2 := bz1 BK401.out 2; have hfz22_3 := bz1 BK401.out 3; have hfz22_4 := bz1 BK401.out 4; have hfz22_5 := bz1 BK401.out 5))
        refine bodyPost_ret (results_cell_row rfl _ _ gb401 30 #[.int .i64 3, .int .u8 0, .slice none 0 0, .string (⟨#[33]⟩ : ByteArray), .int .u8 124, .string (⟨#[48, 48, 48, 48, 48, 48, 48, 48]⟩ : ByteArray)] (0, 0) _ rfl (by (with_reducible repeat (first | refine bn1 ?_ _ | refine bd1 ?_ | refine ba1 ?_ _)); refine bp1 (cs := #[.int .i64 3, .int .u8 0, .slice none 0 0, .string (⟨#[33]⟩ : ByteArray), .int .u8 124, .string (⟨#[]⟩ : ByteArray)]) ?_ 5 _ rfl; (with_reducible repeat (first | refine bn1 ?_ _ | refine bd1 ?_ | refine ba1 ?_ _)); refine bp1 (cs := #[.int .i64 3, .int .u8 0, .slice none 0 0, .string (⟨#[33]⟩ : ByteArray), .int .u8 0, .string (⟨#[]⟩ : ByteArray)]) ?_ 4 _ rfl; (with_reducible repeat (first | refine bn1 ?_ _ | refine bd1 ?_ | refine ba1 ?_ _)); refine bp1 (cs := #[.int .i64 3, .int .u8 0, .slice none 0 0, .string (⟨#[]⟩ : ByteArray), .int .u8 0, .string (⟨#[]⟩ : ByteArray)]) ?_ 3 _ rfl; (with_reducible repeat (first | refine bn1 ?_ _ | refine bd1 ?_ | refine ba1 ?_ _)); refine bp1 (cs := #[.int .i64 3, .int .u8 0, .slice none 0 0, .string (⟨#[]⟩ : ByteArray), .int .u8 0, .string (⟨#[]⟩ : ByteArray)]) ?_ 2 _ rfl; (with_reducible repeat (first | refine bn1 ?_ _ | refine bd1 ?_ | refine ba1 ?_ _)); refine bp1 (cs := #[.int .i64 3, .int .u8 0, .slice none 0 0, .string (⟨#[]⟩ : ByteArray), .int .u8 0, .string (⟨#[]⟩ : ByteArray)]) ?_ 1 _ rfl; (with_reducible repeat (first | refine bn1 ?_ _ | refine bd1 ?_ | refine ba1 ?_ _)); refine bp1 (cs := #[.int .i64 0, .int .u8 0, .slice none 0 0, .string (⟨#[]⟩ : ByteArray), .int .u8 0, .string (⟨#[]⟩ : ByteArray)]) ?_ 0 _ rfl; (with_reducible repeat (first | refine bn1 ?_ _ | refine bd1 ?_ | refine ba1 ?_ _)); exact BK401.out) Tryd.underlying30 rfl (by kernel_rfl)) rfl ?_
        exact ⟨_, by first | rfl | (simp [errW_none, errW_some] <;> rfl) | (simp [*, errW_none, errW_some] <;> rfl), by first | exact Kd.S_nil _ _ _ _ _ | exact Kd.N_nil _ _ _ _ _ | exact Kd.V_nil _ _ _ _ _ | exact Kd.Q_nil _ _ _ _ _ | exact Kd.R_nil _ _ _ _ _, by repeat (first | (with_reducible first | exact HB.out | apply la1 | apply ln1 | apply ld1 | refine ls1 ?_ GE401.out) | exact HB.out)⟩
      · rw [if_neg c20] at H
        have c20b0 : (a0 == 61) = false := beq_eq_false_iff_ne.mpr c20
        have c20b1 : (a0 != 61) = true := bne_iff_ne.mpr c20
        simp only [Option.some.injEq, Prod.mk.injEq] at H
        obtain ⟨rfl, rfl, rfl, rfl, rfl, rfl⟩ := H
        go_enter Tryd.func16, Tryd.ntmps16
        go_wp2_with (first | ((with_reducible refine gate_dst (N := 2) rfl ?_); refine box_event ?hg (N := 2) ?hd (cs := #[.int .i64 0, .int .u8 0, .slice none 0 0, .string (⟨#[]⟩ : ByteArray), .int .u8 0, .string (⟨#[]⟩ : ByteArray)]) (t := 30) ?hr ?_; (case hd => rfl); (case hg => rfl); (case hr => first | (go_simp; done) | (go_simp; rfl)); intro gb401 hg w23 hbox hb; have n0_ := Aside0.mk (below_step (by repeat (first | (with_reducible first | exact HB.out | apply la1 | apply ln1 | apply ld1) | exact HB.out)) hb); have n1_ := Aside0.mk (hbox); have n2_ := Aside0.mk ((by rw [hg]; exact (below_size (by repeat (first | (with_reducible first | exact HB.out | apply la1 | apply ln1 | apply ld1) | exact HB.out))) : w.heap.size ≤ gb401)); have n3_ := Aside0.mk ((by rw [hg]; exact (below_size (by repeat (first | (with_reducible first | exact HB.out | apply la1 | apply ln1 | apply ld1) | exact HB.out))) : w.heap.size ≤ gb401)); clear HB; have HB := n0_; have BK401 := n1_; have GW401 := n2_; have GE401 := n3_; clear n0_ n1_ n2_ n3_; clear hb hbox hg; have hcz24_0 : w23.cell? ⟨gb401, 0, none⟩ = some (.int .i64 0) := (bc1 BK401.out 0).trans rfl; have hcz24_1 : w23.cell? ⟨gb401, 1, none⟩ = some (.int .u8 0) := (bc1 BK401.out 1).trans rfl; have hcz24_2 : w23.cell? ⟨gb401, 2, none⟩ = some (.slice none 0 0) := (bc1 BK401.out 2).trans rfl; have hcz24_3 : w23.cell? ⟨gb401, 3, none⟩ = some (.string (⟨#[]⟩ : ByteArray)) := (bc1 BK401.out 3).trans rfl; have hcz24_4 : w23.cell? ⟨gb401, 4, none⟩ = some (.int .u8 0) := (bc1 BK401.out 4).trans rfl; have hcz24_5 : w23.cell? ⟨gb401, 5, none⟩ = some (.string (⟨#[]⟩ : ByteArray)) := (bc1 BK401.out 5).trans rfl; have hfz24_0 := bz1 BK401.out 0; have hfz24_1 := bz1 BK401.out 1; have hfz24_2 := bz1 BK401.out 2; have hfz24_3 := bz1 BK401.out 3; have hfz24_4 := bz1 BK401.out 4; have hfz24_5 := bz1 BK401.out 5))
        refine bodyPost_ret (results_cell_row rfl _ _ gb401 30 #[.int .i64 0, .int .u8 0, .slice none 0 0, .string (⟨#[]⟩ : ByteArray), .int .u8 0, .string (⟨#[]⟩ : ByteArray)] (0, 0) _ rfl (by (with_reducible repeat (first | refine bn1 ?_ _ | refine bd1 ?_ | refine ba1 ?_ _)); refine bp1 (cs := #[.int .i64 0, .int .u8 0, .slice none 0 0, .string (⟨#[]⟩ : ByteArray), .int .u8 0, .string (⟨#[]⟩ : ByteArray)]) ?_ 5 _ rfl; (with_reducible repeat (first | refine bn1 ?_ _ | refine bd1 ?_ | refine ba1 ?_ _)); refine bp1 (cs := #[.int .i64 0, .int .u8 0, .slice none 0 0, .string (⟨#[]⟩ : ByteArray), .int .u8 0, .string (⟨#[]⟩ : ByteArray)]) ?_ 4 _ rfl; (with_reducible repeat (first | refine bn1 ?_ _ | refine bd1 ?_ | refine ba1 ?_ _)); refine bp1 (cs := #[.int .i64 0, .int .u8 0, .slice none 0 0, .string (⟨#[]⟩ : ByteArray), .int .u8 0, .string (⟨#[]⟩ : ByteArray)]) ?_ 3 _ rfl; (with_reducible repeat (first | refine bn1 ?_ _ | refine bd1 ?_ | refine ba1 ?_ _)); refine bp1 (cs := #[.int .i64 0, .int .u8 0, .slice none 0 0, .string (⟨#[]⟩ : ByteArray), .int .u8 0, .string (⟨#[]⟩ : ByteArray)]) ?_ 2 _ rfl; (with_reducible repeat (first | refine bn1 ?_ _ | refine bd1 ?_ | refine ba1 ?_ _)); refine bp1 (cs := #[.int .i64 0, .int .u8 0, .slice none 0 0, .string (⟨#[]⟩ : ByteArray), .int .u8 0, .string (⟨#[]⟩ : ByteArray)]) ?_ 1 _ rfl; (with_reducible repeat (first | refine bn1 ?_ _ | refine bd1 ?_ | refine ba1 ?_ _)); refine bp1 (cs := #[.int .i64 0, .int .u8 0, .slice none 0 0, .string (⟨#[]⟩ : ByteArray), .int .u8 0, .string (⟨#[]⟩ : ByteArray)]) ?_ 0 _ rfl; (with_reducible repeat (first | refine bn1 ?_ _ | refine bd1 ?_ | refine ba1 ?_ _)); exact BK401.out) Tryd.underlying30 rfl (by kernel_rfl)) rfl ?_
        exact ⟨_, by first | rfl | (simp [errW_none, errW_some] <;> rfl) | (simp [*, errW_none, errW_some] <;> rfl), by first | exact Kd.S_nil _ _ _ _ _ | exact Kd.N_nil _ _ _ _ _ | exact Kd.V_nil _ _ _ _ _ | exact Kd.Q_nil _ _ _ _ _ | exact Kd.R_nil _ _ _ _ _, by repeat (first | (with_reducible first | exact HB.out | apply la1 | apply ln1 | apply ld1 | refine ls1 ?_ GE401.out) | exact HB.out)⟩
def report_Fine.f (k : Nat)  : Option (Int × Int × (List (List Int)) × ByteArray × Int × ByteArray) := (wire_Num.f k 0 110 (([0] : List Int))).bind fun bt480 => (some (bt480.1, bt480.2.1, bt480.2.2.1, bt480.2.2.2.1, bt480.2.2.2.2.1, bt480.2.2.2.2.2))
theorem report_Fine.mono : ∀ k, LeO (report_Fine.f k ) (report_Fine.f (k + 1) ) := by
  intro  k
  unfold report_Fine.f
  repeat' first
      | (with_reducible exact wire_Num.mono _ _ _ _)
      | (with_reducible exact LeO.refl _)
      | (with_reducible exact LeO.none _)
      | (with_reducible refine LeO.ite ?_ ?_)
      | (with_reducible refine LeO.bind ?_ (fun _ => ?_))
      | exact wire_Num.mono _ _ _ _
      | exact LeO.none _
      | refine LeO.ite ?_ ?_
      | refine LeO.bind ?_ (fun _ => ?_)
set_option maxHeartbeats 8000000 in
set_option maxRecDepth 100000 in
theorem report_Fine.calls (k : Nat)  (r1 : Int) (r2 : Int) (r3 : List (List Int)) (r4 : ByteArray) (r5 : Int) (r6 : ByteArray) (w : World) (h : report_Fine.f k  = some (r1, r2, r3, r4, r5, r6)) :
    Calls Tryd.prog 22 #[] w fun e w' => ∃ v2_ : Value, e = .returned (.agg #[.int .i64 r1, .int .u8 r2, v2_, .string r4, .int .u8 r5, .string r6]) ∧ Kd.S (Kd.slice 3 (Kd.int .i64)) 52 w' w.heap.size (fun _ => True) v2_ r3 ∧ Below w.heap.size w w' := by
  have hu30 := Tryd.underlying30
  have HB := Aside0.mk (Below.refl w.heap.size w)
  have H : ((wire_Num.f k 0 110 (([0] : List Int))).bind fun bt480 => (some (bt480.1, bt480.2.1, bt480.2.2.1, bt480.2.2.2.1, bt480.2.2.2.2.1, bt480.2.2.2.2.2))) = some (r1, r2, r3, r4, r5, r6) := h
  clear h
  obtain ⟨y477, hy477⟩ : ∃ y_ : List Int, y_ = (([0] : List Int)) := ⟨_, rfl⟩
  replace H : ((wire_Num.f k 0 110 y477).bind fun bt480 => (some (bt480.1, bt480.2.1, bt480.2.2.1, bt480.2.2.2.1, bt480.2.2.2.2.1, bt480.2.2.2.2.2))) = some (r1, r2, r3, r4, r5, r6) := by first | (rw [hy477]; with_reducible exact H) | (have H2_ := (Option.bind_some _ _).symm.trans H; rw [hy477]; with_reducible exact H2_) | (have H2_ := (Option.bind_some _ _).symm.trans H; with_reducible exact H2_) | with_reducible exact H | (rw [hy477]; exact H) | exact H
  have Ny477 := Aside0.mk hy477
  clear hy477
  replace H := Option.bind_eq_some_iff.mp H
  obtain ⟨⟨t480, t481, t482, t485, t486, t487⟩, A10, H⟩ := H
  replace H : (some (t480, t481, t482, t485, t486, t487)) = some (r1, r2, r3, r4, r5, r6) := H
  have A1 := Aside0.mk A10
  clear A10
  simp only [Option.some.injEq, Prod.mk.injEq] at H
  obtain ⟨rfl, rfl, rfl, rfl, rfl, rfl⟩ := H
  go_enter Tryd.func22, Tryd.ntmps22
  go_wp2_with (first | ((with_reducible refine gate_dst (N := 0) rfl ?_); refine box_event ?hg (N := 0) ?hd (cs := #[.int .i64 0, .int .u8 0, .slice none 0 0, .string (⟨#[]⟩ : ByteArray), .int .u8 0, .string (⟨#[]⟩ : ByteArray)]) (t := 30) ?hr ?_; (case hd => rfl); (case hg => rfl); (case hr => first | (go_simp; done) | (go_simp; rfl)); intro gb476 hg w2 hbox hb; have n0_ := Aside0.mk (below_step (by repeat (first | (with_reducible first | exact HB.out | apply la1 | apply ln1 | apply ld1) | exact HB.out)) hb); have n1_ := Aside0.mk (hbox); have n2_ := Aside0.mk ((by rw [hg]; exact (below_size (by repeat (first | (with_reducible first | exact HB.out | apply la1 | apply ln1 | apply ld1) | exact HB.out))) : w.heap.size ≤ gb476)); have n3_ := Aside0.mk ((by rw [hg]; exact (below_size (by repeat (first | (with_reducible first | exact HB.out | apply la1 | apply ln1 | apply ld1) | exact HB.out))) : w.heap.size ≤ gb476)); clear HB; have HB := n0_; have BK476 := n1_; have GW476 := n2_; have GE476 := n3_; clear n0_ n1_ n2_ n3_; clear hb hbox hg) | ((with_reducible refine gate_dst (N := 1) rfl ?_); refine Kd.R_lit (Kd.int .i64) _ 3 ?hg (N := 1) ?hd (xs := ([0] : List Int)) (inner := [.int .i64 0]) (ok := fun _ => True) (okp := fun _ => True) ?hr ?hp (fun _ hk => hk) trivial (Below.refl _ _) (Nat.le_refl _) (by simp) ?_; (case hd => rfl); (case hg => rfl); (case hr => first | (go_simp; done) | (go_simp; rfl)); (case hp => exact (Reps.one (show Kd.M (Kd.int .i64) _ _ _ 0 [.int .i64 0] from rfl) (Reps.none _ _))); intro v478 w3 ho4 hb hg_ hnew_; clear hg_ hnew_; (first | rw [← Ny477.out] at ho4 | (simp only [Int.reduceToNat] at ho4; rw [← Ny477.out] at ho4)); have n0_ := Aside0.mk (Kd.R_lower ho4 (below_size (by repeat (first | (with_reducible first | exact HB.out | apply la1 | apply ln1 | apply ld1 | refine ls1 ?_ GE476.out) | exact HB.out)))); have n1_ := Aside0.mk (bb1 (g := gb476) (o := .cells #[.int .i64 0, .int .u8 0, .slice none 0 0, .string (⟨#[]⟩ : ByteArray), .int .u8 0, .string (⟨#[]⟩ : ByteArray)] 30 (0, 0)) (by (with_reducible repeat (first | refine bn1 ?_ _ | refine bd1 ?_ | refine ba1 ?_ _)); exact BK476.out) hb); have n2_ := Aside0.mk (below_step (by repeat (first | (with_reducible first | exact HB.out | apply la1 | apply ln1 | apply ld1 | refine ls1 ?_ GE476.out) | exact HB.out)) hb); clear BK476; clear HB; have HO479 := n0_; have BK476 := n1_; have HB := n2_; clear n0_ n1_ n2_; clear hb ho4; obtain ⟨Ao5, co5, eo5⟩ := Kd.R_slice HO479.out; subst eo5) | ((with_reducible refine gate_callee (f := 30) rfl ?_); refine goesL_ (some 2) rfl rfl Tryd.func30 (by kernel_rfl) rfl #[.int .u8 0, .int .u8 110, .slice Ao5 y477.length co5] rfl (by (try simp only [List.map_toArray, List.map_cons, List.map_nil]); first | done | rfl | (simp only [List.length_drop, List.length_take]; rfl)) ?_; (with_reducible refine (wire_Num.calls k 0 110 _ _ y477 t480 t481 t482 t485 t486 t487 _ ?side1 ?side2 A1.out).mono ?_); (case side1 => repeat (first | exact (Kd.R_reads' HO479.out).2.2 | (with_reducible refine Kd.C_alloc ?_ _) | (with_reducible refine Kd.C_drewN ?_ _) | (with_reducible refine Kd.C_drew ?_))); (case side2 => exact (Kd.R_reads' HO479.out).2.1); rintro e w6 ⟨v483, rfl, ho0, hb⟩; refine ⟨_, rfl, ?_⟩; have n0_ := Aside0.mk (Kd.R_below (by (with_reducible repeat (first | apply Kd.R_alloc | apply Kd.R_drewN | apply Kd.R_drew)); exact HO479.out) hb); have n1_ := Aside0.mk (Kd.S_lower (Kd.S_new' ho0 (Kd.R_lt (by (with_reducible repeat (first | apply Kd.R_alloc | apply Kd.R_drewN | apply Kd.R_drew)); exact HO479.out))) (below_size (by repeat (first | (with_reducible first | exact HB.out | apply la1 | apply ln1 | apply ld1 | refine ls1 ?_ GE476.out) | exact HB.out)))); have n2_ := Aside0.mk (bb1 (g := gb476) (o := .cells #[.int .i64 0, .int .u8 0, .slice none 0 0, .string (⟨#[]⟩ : ByteArray), .int .u8 0, .string (⟨#[]⟩ : ByteArray)] 30 (0, 0)) (by (with_reducible repeat (first | refine bn1 ?_ _ | refine bd1 ?_ | refine ba1 ?_ _)); exact BK476.out) hb); have n3_ := Aside0.mk (below_step (by repeat (first | (with_reducible first | exact HB.out | apply la1 | apply ln1 | apply ld1 | refine ls1 ?_ GE476.out) | exact HB.out)) hb); clear HO479; clear BK476; clear HB; have HO479 := n0_; have HO484 := n1_; have BK476 := n2_; have HB := n3_; clear n0_ n1_ n2_ n3_; (try clear hb); (try clear hb2); (try clear hk); (try clear hi); (try clear ho0); have hcz7_0 : w6.cell? ⟨gb476, 0, none⟩ = some (.int .i64 0) := (bc1 BK476.out 0).trans rfl; have hcz7_1 : w6.cell? ⟨gb476, 1, none⟩ = some (.int .u8 0) := (bc1 BK476.out 1).trans rfl; have hcz7_2 : w6.cell? ⟨gb476, 2, none⟩ = some (.slice none 0 0) := (bc1 BK476.out 2).trans rfl; have hcz7_3 : w6.cell? ⟨gb476, 3, none⟩ = some (.string (⟨#[]⟩ : ByteArray)) := (bc1 BK476.out 3).trans rfl; have hcz7_4 : w6.cell? ⟨gb476, 4, none⟩ = some (.int .u8 0) := (bc1 BK476.out 4).trans rfl; have hcz7_5 : w6.cell? ⟨gb476, 5, none⟩ = some (.string (⟨#[]⟩ : ByteArray)) := (bc1 BK476.out 5).trans rfl; have hfz7_0 := bz1 BK476.out 0; have hfz7_1 := bz1 BK476.out 1; have hfz7_2 := bz1 BK476.out 2; have hfz7_3 := bz1 BK476.out 3; have hfz7_4 := bz1 BK476.out 4; have hfz7_5 := bz1 BK476.out 5; obtain ⟨Ao8, co8, eo8⟩ := Kd.S_slice HO484.out; subst eo8))
  refine bodyPost_ret (results_cell_row rfl _ _ gb476 30 #[.int .i64 t480, .int .u8 t481, .slice Ao8 t482.length co8, .string t485, .int .u8 t486, .string t487] (0, 0) _ rfl (by (with_reducible repeat (first | refine bn1 ?_ _ | refine bd1 ?_ | refine ba1 ?_ _)); refine bp1 (cs := #[.int .i64 t480, .int .u8 t481, .slice Ao8 t482.length co8, .string t485, .int .u8 t486, .string (⟨#[]⟩ : ByteArray)]) ?_ 5 _ rfl; (with_reducible repeat (first | refine bn1 ?_ _ | refine bd1 ?_ | refine ba1 ?_ _)); refine bp1 (cs := #[.int .i64 t480, .int .u8 t481, .slice Ao8 t482.length co8, .string t485, .int .u8 0, .string (⟨#[]⟩ : ByteArray)]) ?_ 4 _ rfl; (with_reducible repeat (first | refine bn1 ?_ _ | refine bd1 ?_ | refine ba1 ?_ _)); refine bp1 (cs := #[.int .i64 t480, .int .u8 t481, .slice Ao8 t482.length co8, .string (⟨#[]⟩ : ByteArray), .int .u8 0, .string (⟨#[]⟩ : ByteArray)]) ?_ 3 _ rfl; (with_reducible repeat (first | refine bn1 ?_ _ | refine bd1 ?_ | refine ba1 ?_ _)); refine bp1 (cs := #[.int .i64 t480, .int .u8 t481, .slice none 0 0, .string (⟨#[]⟩ : ByteArray), .int .u8 0, .string (⟨#[]⟩ : ByteArray)]) ?_ 2 _ rfl; (with_reducible repeat (first | refine bn1 ?_ _ | refine bd1 ?_ | refine ba1 ?_ _)); refine bp1 (cs := #[.int .i64 t480, .int .u8 0, .slice none 0 0, .string (⟨#[]⟩ : ByteArray), .int .u8 0, .string (⟨#[]⟩ : ByteArray)]) ?_ 1 _ rfl; (with_reducible repeat (first | refine bn1 ?_ _ | refine bd1 ?_ | refine ba1 ?_ _)); refine bp1 (cs := #[.int .i64 0, .int .u8 0, .slice none 0 0, .string (⟨#[]⟩ : ByteArray), .int .u8 0, .string (⟨#[]⟩ : ByteArray)]) ?_ 0 _ rfl; (with_reducible repeat (first | refine bn1 ?_ _ | refine bd1 ?_ | refine ba1 ?_ _)); exact BK476.out) Tryd.underlying30 rfl (by kernel_rfl)) rfl ?_
  exact ⟨_, by first | rfl | (simp [errW_none, errW_some] <;> rfl) | (simp [*, errW_none, errW_some] <;> rfl), by (with_reducible repeat (first | apply Kd.S_alloc | apply Kd.S_drewN | apply Kd.S_drew)); exact Kd.S_mono (Kd.S_far (p := ⟨gb476, 5, none⟩) (Kd.S_far (p := ⟨gb476, 4, none⟩) (Kd.S_far (p := ⟨gb476, 3, none⟩) (Kd.S_far (p := ⟨gb476, 2, none⟩) (Kd.S_far (p := ⟨gb476, 1, none⟩) (Kd.S_far (p := ⟨gb476, 0, none⟩) (Kd.S_types HO484.out BK476.out (by decide)) (fun _ hk => hk.2) (.int .i64 t480)) (fun _ hk => hk.2) (.int .u8 t481)) (fun _ hk => hk.2) (.slice Ao8 t482.length co8)) (fun _ hk => hk.2) (.string t485)) (fun _ hk => hk.2) (.int .u8 t486)) (fun _ hk => hk.2) (.string t487)) (fun _ hk => trivial), by repeat (first | (with_reducible first | exact HB.out | apply la1 | apply ln1 | apply ld1 | refine ls1 ?_ GE476.out) | exact HB.out)⟩
end Go.Proofs.YtopcleljecdkkaaDoor.G
end
section
namespace Go.Proofs.YtopcleljecdkkaaDoor.G
set_option linter.unusedVariables false
set_option linter.unusedSimpArgs false
open Go.RowKit Kit Go.Proofs.YtopcleljecdkkaaDoorW.PrintWords Go.Proofs.YtopcleljecdkkaaDoorW.PrintMore
theorem num2 (pr fi a b : Int) : wire_Num.f 10 pr fi [a, b] = some (1, pr, [[a], [b]], ⟨#[]⟩, fi, ⟨#[]⟩) := by simp [wire_Num.f, wire_Num.l0, rd, wrap64]
theorem num3 (pr fi a b c : Int) : wire_Num.f 10 pr fi [a, b, c] = some (1, pr, [[a], [b], [c]], ⟨#[]⟩, fi, ⟨#[]⟩) := by simp [wire_Num.f, wire_Num.l0, rd, wrap64]
end Go.Proofs.YtopcleljecdkkaaDoor.G
end
section
namespace Go.Proofs.YtopcleljecdkkaaDoor
set_option linter.unusedVariables false
set_option linter.unusedSimpArgs false
set_option maxRecDepth 100000
open Go.RowKit Kit Go.Proofs.YtopcleljecdkkaaDoorW.PrintWords G
attribute [local irreducible] wpList Calls
def sqOf (t : Int × Int × List (List Int) × ByteArray × Int × ByteArray) : Sq := ⟨t.1, t.2.1, t.2.2.1, t.2.2.2.1, t.2.2.2.2.1, t.2.2.2.2.2⟩
end Go.Proofs.YtopcleljecdkkaaDoor
end
section
namespace Go.Proofs.YtopcleljecdkkaaDoor.G
open Go.RowKit Go.Proofs.YtopcleljecdkkaaDoorW.PrintWords Go.Proofs.YtopcleljecdkkaaDoorW.PrintLast Go.Proofs.YtopcleljecdkkaaDoorW.PrintMore
attribute [local go_sem] max2_int min2_int max_two min_two max_three min_three max_four min_four
set_option linter.unusedVariables false
set_option linter.unusedSimpArgs false
def stack_flagsOf.f (a0 : Int) : Option (Int) := some (Go.bits .and .i64 (mx a0 0) 31)
set_option maxHeartbeats 8000000 in
set_option maxRecDepth 100000 in
theorem stack_flagsOf.calls (a0 : Int) (r : Int) (w : World) (h : stack_flagsOf.f a0 = some r) :
    Calls Tryd.prog 68 #[.int .i64 a0] w fun e w' => e = .returned (.int .i64 r) ∧ Below w.heap.size w w' := by
  have HB := Aside0.mk (Below.refl w.heap.size w)
  have H : (some (Go.bits .and .i64 (mx a0 0) 31)) = some r := h
  clear h
  obtain ⟨ji2, hji2⟩ : ∃ j_ : Int, (mx a0 0) = j_ := ⟨_, rfl⟩
  replace H : (some (Go.bits .and .i64 (ji2) 31)) = some r := by first | (rw [hji2] at H; exact H) | (simp only [hji2] at H ⊢; exact H)
  (try (have hji2l : 0 ≤ ji2 := by (rw [← hji2]; unfold mx; (repeat' split) <;> omega)))
  (try (have hji2m : 0 ≤ ji2 := by omega))
  have hji2_ : (if a0 < 0 then 0 else a0) = ji2 := hji2
  obtain rfl := Option.some.inj H
  go_enter Tryd.func68, Tryd.ntmps68
  go_wp2
  go_ret
  exact ⟨by first | rfl | (simp [errW_none, errW_some] <;> rfl) | (simp only [← hji2]; first | rfl | (simp [errW_none, errW_some] <;> rfl)) | (simp [*, errW_none, errW_some] <;> rfl), by repeat (first | (with_reducible first | exact HB.out | apply la1 | apply ln1 | apply ld1) | exact HB.out)⟩
end Go.Proofs.YtopcleljecdkkaaDoor.G
end
section
namespace Go.Proofs.YtopcleljecdkkaaDoor.G
open Go.RowKit Go.Proofs.YtopcleljecdkkaaDoorW.PrintWords Go.Proofs.YtopcleljecdkkaaDoorW.PrintLast Go.Proofs.YtopcleljecdkkaaDoorW.PrintMore
attribute [local go_sem] max2_int min2_int max_two min_two max_three min_three max_four min_four
set_option linter.unusedVariables false
set_option linter.unusedSimpArgs false
def report_Flags.f (a0 : Int) : Option (Int × Int × (List (List Int)) × ByteArray × Int × ByteArray) := (stack_flagsOf.f a0).bind fun t => some (1, 63, [[t]], ⟨#[]⟩, 117, ⟨#[]⟩)
theorem num_one (pr fi a : Int) : wire_Num.f 10 pr fi [a] = some (1, pr, [[a]], ⟨#[]⟩, fi, ⟨#[]⟩) := by simp [wire_Num.f, wire_Num.l0, rd, wrap64]
theorem report_Flags.calls (a0 : Int) (r1 : Int) (r2 : Int) (r3 : List (List Int)) (r4 : ByteArray) (r5 : Int) (r6 : ByteArray) (w : World) (h : report_Flags.f a0 = some (r1, r2, r3, r4, r5, r6)) :
    Calls Tryd.prog 20 #[.int .i64 a0] w fun e w' => ∃ v2_ : Value, e = .returned (.agg #[.int .i64 r1, .int .u8 r2, v2_, .string r4, .int .u8 r5, .string r6]) ∧ Kd.S (Kd.slice 3 (Kd.int .i64)) 52 w' w.heap.size (fun _ => True) v2_ r3 ∧ Below w.heap.size w w' := by
  unfold report_Flags.f at h
  obtain ⟨t, ht, h⟩ := Option.bind_eq_some_iff.1 h
  simp only [Option.some.injEq, Prod.mk.injEq] at h
  obtain ⟨rfl, rfl, rfl, rfl, rfl, rfl⟩ := h
  refine flags_calls a0 t w (fun W => stack_flagsOf.calls a0 t W ht) (fun W b hb hr => ?_)
  have hc : (Kd.int .i64).C W (some ⟨b, 0, none⟩) [t].length [t] := Kit.lit_ints hr (by simp)
  exact wire_Num.calls 10 _ 117 (some ⟨b, 0, none⟩) 1 [t] 1 _ [[t]] ⟨#[]⟩ 117 ⟨#[]⟩ W hc (Nat.le_refl _) (num_one _ _ _)
end Go.Proofs.YtopcleljecdkkaaDoor.G
end
section
namespace Go.Proofs.YtopcleljecdkkaaDoor.G
open Go.RowKit Go.Proofs.YtopcleljecdkkaaDoorW.PrintWords Go.Proofs.YtopcleljecdkkaaDoorW.PrintLast Go.Proofs.YtopcleljecdkkaaDoorW.PrintMore
attribute [local go_sem] max2_int min2_int max_two min_two max_three min_three max_four min_four
set_option linter.unusedVariables false
set_option linter.unusedSimpArgs false
def report_Mode.f (a0_0 : Bool) (a0_1 : Bool) (a0_2 : Bool) (a0_3 : Bool) (a0_4 : Bool) (a0_5 : Bool) (a0_6 : Bool) (a0_7 : Int) (a0_8 : Int) (a0_9 : Int) (a1 : Bool) (a2 : Int) : Option (Int × Int × (List (List Int)) × ByteArray × Int × ByteArray) := (report_fact.f a2).bind fun t => some (1, (if a1 then 63 else 0), [[t], [getM ⟨a0_0, a0_1, a0_2, a0_3, a0_4, a0_5, a0_6, a0_7, a0_8, a0_9⟩ a1 a2]], ⟨#[36]⟩, 121, ⟨#[]⟩)
theorem num_two (pr fi a b : Int) : wire_Num.f 10 pr fi [a, b] = some (1, pr, [[a], [b]], ⟨#[]⟩, fi, ⟨#[]⟩) := by simp [wire_Num.f, wire_Num.l0, rd, wrap64]
theorem report_Mode.calls (a0_0 : Bool) (a0_1 : Bool) (a0_2 : Bool) (a0_3 : Bool) (a0_4 : Bool) (a0_5 : Bool) (a0_6 : Bool) (a0_7 : Int) (a0_8 : Int) (a0_9 : Int) (a1 : Bool) (a2 : Int) (r1 : Int) (r2 : Int) (r3 : List (List Int)) (r4 : ByteArray) (r5 : Int) (r6 : ByteArray) (w : World) (h : report_Mode.f a0_0 a0_1 a0_2 a0_3 a0_4 a0_5 a0_6 a0_7 a0_8 a0_9 a1 a2 = some (r1, r2, r3, r4, r5, r6)) :
    Calls Tryd.prog 18 #[.agg #[.bool a0_0, .bool a0_1, .bool a0_2, .bool a0_3, .bool a0_4, .bool a0_5, .bool a0_6, .int .i64 a0_7, .int .i64 a0_8, .int .i64 a0_9], .bool a1, .int .i64 a2] w fun e w' => ∃ v2_ : Value, e = .returned (.agg #[.int .i64 r1, .int .u8 r2, v2_, .string r4, .int .u8 r5, .string r6]) ∧ Kd.S (Kd.slice 3 (Kd.int .i64)) 52 w' w.heap.size (fun _ => True) v2_ r3 ∧ Below w.heap.size w w' := by
  unfold report_Mode.f at h
  obtain ⟨t, ht, h⟩ := Option.bind_eq_some_iff.1 h
  simp only [Option.some.injEq, Prod.mk.injEq] at h
  obtain ⟨rfl, rfl, rfl, rfl, rfl, rfl⟩ := h
  refine mode_calls ⟨a0_0, a0_1, a0_2, a0_3, a0_4, a0_5, a0_6, a0_7, a0_8, a0_9⟩ a1 a2 t (getM ⟨a0_0, a0_1, a0_2, a0_3, a0_4, a0_5, a0_6, a0_7, a0_8, a0_9⟩ a1 a2) _ rfl w (fun W _ => report_fact.calls a2 t W ht) (fun W _ => get_calls _ a1 a2 W) (fun W b hb hr => ?_)
  have hc : (Kd.int .i64).C W (some ⟨b, 0, none⟩) [t, getM ⟨a0_0, a0_1, a0_2, a0_3, a0_4, a0_5, a0_6, a0_7, a0_8, a0_9⟩ a1 a2].length [t, getM ⟨a0_0, a0_1, a0_2, a0_3, a0_4, a0_5, a0_6, a0_7, a0_8, a0_9⟩ a1 a2] := Kit.lit_ints hr (by simp)
  exact wire_Num.calls 10 _ 121 (some ⟨b, 0, none⟩) 2 [t, getM ⟨a0_0, a0_1, a0_2, a0_3, a0_4, a0_5, a0_6, a0_7, a0_8, a0_9⟩ a1 a2] 1 _ [[t], [getM ⟨a0_0, a0_1, a0_2, a0_3, a0_4, a0_5, a0_6, a0_7, a0_8, a0_9⟩ a1 a2]] ⟨#[]⟩ 121 ⟨#[]⟩ W hc (Nat.le_refl _) (num_two _ _ _ _)
end Go.Proofs.YtopcleljecdkkaaDoor.G
end
section
namespace Go.Proofs.YtopcleljecdkkaaDoor.G
set_option linter.unusedVariables false
set_option linter.unusedSimpArgs false
open Go.RowKit Kit Go.Proofs.YtopcleljecdkkaaDoorW.PrintWords Go.Proofs.YtopcleljecdkkaaDoorW.PrintMore
theorem i64_and31 (n : Int) : bits .and .i64 n 31 = n % 32 := by
  have h31 : (BitVec.ofInt 64 31).toNat = 2 ^ 5 - 1 := by decide
  have key : (BitVec.ofInt 64 n &&& BitVec.ofInt 64 31).toNat = (n % ((2 ^ 64 : Nat) : Int)).toNat % 2 ^ 5 := by
    rw [BitVec.toNat_and, BitVec.toNat_ofInt, h31, Nat.and_two_pow_sub_one_eq_mod]
  show IntKind.i64.wrap ((BitVec.ofInt 64 n &&& BitVec.ofInt 64 31).toNat : Nat) = n % 32
  rw [key, IntKind.wrap_i64]
  omega
abbrev Tup := Int × Int × List (List Int) × ByteArray × Int × ByteArray
theorem num1 (pr fi a : Int) : wire_Num.f 10 pr fi [a] = some (1, pr, [[a]], ⟨#[]⟩, fi, ⟨#[]⟩) := by simp [wire_Num.f, wire_Num.l0, rd, wrap64]
def modeT (m : Md) (p : Bool) (n : Int) : Tup := (1, (if p then 63 else 0), [[clamp n], [getM m p n]], ⟨#[36]⟩, 121, ⟨#[]⟩)
theorem mode_is (m0 m1 m2 m3 m4 m5 m6 : Bool) (m7 m8 m9 : Int) (p : Bool) (n : Int) : report_Mode.f m0 m1 m2 m3 m4 m5 m6 m7 m8 m9 p n = some (modeT ⟨m0, m1, m2, m3, m4, m5, m6, m7, m8, m9⟩ p n) := by
  unfold report_Mode.f report_fact.f
  rw [Option.bind_some]
  rfl
def flagsT (n : Int) : Tup := (1, 63, [[(mx n 0) % 32]], ⟨#[]⟩, 117, ⟨#[]⟩)
theorem flags_is (n : Int) : report_Flags.f n = some (flagsT n) := by
  unfold report_Flags.f stack_flagsOf.f
  rw [i64_and31, Option.bind_some]; rfl
def fineT : Tup := (1, 0, [[0]], ⟨#[]⟩, 110, ⟨#[]⟩)
theorem fine_is : report_Fine.f 10 = some fineT := by unfold report_Fine.f; rw [num1, Option.bind_some]; rfl
def versionT : Tup := (3, 62, [], ⟨#[]⟩, 124, ⟨#[99, 108, 97, 118, 105, 101, 114, 40, 49, 41]⟩)
theorem version_is : report_Version.f = some versionT := rfl
def attrT (n : Int) : Tup := if n = 0 then (1, 63, [[62], [22]], ⟨#[]⟩, 99, ⟨#[]⟩) else if n = 62 then (1, 62, [[41], [1], [0]], ⟨#[]⟩, 99, ⟨#[]⟩) else if n = 61 then (3, 0, [], ⟨#[33]⟩, 124, ⟨#[48, 48, 48, 48, 48, 48, 48, 48]⟩) else (0, 0, [], ⟨#[]⟩, 0, ⟨#[]⟩)
theorem attr_is (n : Int) : report_Attributes.f 10 n = some (attrT n) := by
  unfold report_Attributes.f attrT
  rw [num2, num3, Option.bind_some, Option.bind_some]
  split
  · rfl
  · split
    · rfl
    · split <;> rfl
end Go.Proofs.YtopcleljecdkkaaDoor.G
end
section
namespace Go.Proofs.YtopcleljecdkkaaDoor
set_option linter.unusedVariables false
set_option linter.unusedSimpArgs false
set_option maxRecDepth 100000
open Go.RowKit Kit Go.Proofs.YtopcleljecdkkaaDoorW.PrintWords G
attribute [local irreducible] wpList Calls
abbrev modV (m0 m1 m2 m3 m4 m5 m6 : Bool) (m7 m8 m9 : Int) : Value := .agg #[.bool m0, .bool m1, .bool m2, .bool m3, .bool m4, .bool m5, .bool m6, .int .i64 m7, .int .i64 m8, .int .i64 m9]
section
variable (m0 m1 m2 m3 m4 m5 m6 : Bool) (m7 m8 m9 : Int) (p : Bool) (n : Int) {w : World}
theorem mode_tells : Tells 18 #[modV m0 m1 m2 m3 m4 m5 m6 m7 m8 m9, .bool p, .int .i64 n] (sqOf (modeT ⟨m0, m1, m2, m3, m4, m5, m6, m7, m8, m9⟩ p n)) w := fun W _ =>
  (report_Mode.calls m0 m1 m2 m3 m4 m5 m6 m7 m8 m9 p n _ _ _ _ _ _ W (mode_is m0 m1 m2 m3 m4 m5 m6 m7 m8 m9 p n)).mono fun e w' ⟨v, h1, h2, h3⟩ => ⟨_, h1, ⟨v, rfl, h2⟩, h3⟩
theorem flags_tells : Tells 20 #[.int .i64 n] (sqOf (flagsT n)) w := fun W _ =>
  (report_Flags.calls n _ _ _ _ _ _ W (flags_is n)).mono fun e w' ⟨v, h1, h2, h3⟩ => ⟨_, h1, ⟨v, rfl, h2⟩, h3⟩
theorem fine_tells : Tells 22 #[] (sqOf fineT) w := fun W _ =>
  (report_Fine.calls 10 _ _ _ _ _ _ W fine_is).mono fun e w' ⟨v, h1, h2, h3⟩ => ⟨_, h1, ⟨v, rfl, h2⟩, h3⟩
theorem version_tells : Tells 24 #[] (sqOf versionT) w := fun W _ =>
  (report_Version.calls _ _ _ _ _ _ W version_is).mono fun e w' ⟨v, h1, h2, h3⟩ => ⟨_, h1, ⟨v, rfl, h2⟩, h3⟩
theorem attr_tells : Tells 16 #[.int .u8 n] (sqOf (attrT n)) w := fun W _ =>
  (report_Attributes.calls 10 n (attrT n).1 (attrT n).2.1 (attrT n).2.2.1 (attrT n).2.2.2.1 (attrT n).2.2.2.2.1 (attrT n).2.2.2.2.2 W (attr_is n)).mono fun e w' ⟨v, h1, h2, h3⟩ => ⟨_, h1, ⟨v, rfl, h2⟩, h3⟩
end
end Go.Proofs.YtopcleljecdkkaaDoor
end
