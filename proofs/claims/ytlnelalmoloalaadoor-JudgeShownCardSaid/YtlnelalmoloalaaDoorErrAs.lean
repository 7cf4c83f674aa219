/-
  errors.Is and errors.As at the program's own errors (a Fault that wraps a sentinel, or a Fault that wraps one), as contracts over this seat's translation.
-/
import Derived.Test.YtlnelalmoloalaaDoorProg
import Derived.WalkKit
import Derived.LaidEql
import Derived.Stop.Asserts
import Derived.RowKitTokens
import Derived.Below
namespace Go.Proofs.YtlnelalmoloalaaDoor
open Go.RowKit Go.Extern.Stop Go.Stop Go.Extern
set_option linter.unusedVariables false
set_option linter.unusedSimpArgs false

/-! ### closed facts on the entries for internal/reflectlite -/
theorem rl_valueOfPP (t : Addr) (w : World) : (ReflectliteValue.unpack (.iface 78 (.pointer (some t)))).run Tryd.prog w
    = .ok (.agg #[.pointer (some ⟨13, 78, none⟩), .pointer (some ⟨w.heap.size, 0, none⟩), .int .u64 150]) (w.alloc (.cells #[.pointer (some t)] 78)) := by kernel_rfl
theorem rl_typePP (a : Addr) (w : World) : (ReflectliteValue.methodAny (ReflectliteValue.valueError "reflectlite.Value.Type" 0) (fun t _ _ _ => ReflectliteType.toType t) #[.agg #[.pointer (some ⟨13, 78, none⟩), .pointer (some a), .int .u64 150]]).run Tryd.prog w
    = .ok (.iface 129 (.agg #[.pointer (some ⟨13, 78, none⟩)])) w := by kernel_rfl
theorem rl_methodKind (h : Value) (w : World) : (Go.method 278 129 (.agg #[h]) "Kind").run Tryd.prog w = .ok (94, h) w := by kernel_rfl
theorem rl_kindPP (w : World) : ((ReflectliteType.abiMethod fun t => (fun a : Nat => Value.int IntKind.u8 (a : Int)) <$> Rtype.kind t) #[.pointer (some ⟨13, 78, none⟩)]).run Tryd.prog w = .ok (.int .u8 22) w := by kernel_rfl
theorem rl_kindP (w : World) : ((ReflectliteType.abiMethod fun t => (fun a : Nat => Value.int IntKind.u8 (a : Int)) <$> Rtype.kind t) #[.pointer (some ⟨13, 76, none⟩)]).run Tryd.prog w = .ok (.int .u8 22) w := by kernel_rfl
theorem rlm (z : Sem Value) (f : TypeId → Addr → Nat → Nat → Sem Value) (v : Value) :
    ReflectliteValue.method z f #[v] = (do match ← ReflectliteValue.parts v with | none => z | some (t, a, fl) => f t a fl (fl % 32)) := rfl
theorem rl_partsPP (a : Addr) (w : World) : (ReflectliteValue.parts (.agg #[.pointer (some ⟨13, 78, none⟩), .pointer (some a), .int .u64 150])).run Tryd.prog w = .ok (some (78, a, 150)) w := by kernel_rfl
theorem rl_isNilPP (a p : Addr) (W : World) (ha : W.cell? a = some (.pointer (some p))) :
    (ReflectliteValue.method (ReflectliteValue.valueError "reflectlite.Value.IsNil" 0) ReflectliteValue.isNil #[.agg #[.pointer (some ⟨13, 78, none⟩), .pointer (some a), .int .u64 150]]).run Tryd.prog W = .ok (.bool false) W := by
  rw [rlm]
  simp only [Sem.run_bind, rl_partsPP, Result.andThen]
  simp [ReflectliteValue.isNil, loadVar, isAgg, underlying, Tryd.underlying78, ha, Result.andThen]
theorem rl_methodElem (h : Value) (w : World) : (Go.method 278 129 (.agg #[h]) "Elem").run Tryd.prog w = .ok (105, .agg #[h]) w := by kernel_rfl
theorem rl_methodImplements (h : Value) (w : World) : (Go.method 278 129 (.agg #[h]) "Implements").run Tryd.prog w = .ok (106, .agg #[h]) w := by kernel_rfl
theorem rl_methodAssignableTo (h : Value) (w : World) : (Go.method 278 129 (.agg #[h]) "AssignableTo").run Tryd.prog w = .ok (103, .agg #[h]) w := by kernel_rfl
theorem rl_elemPP (w : World) : (ReflectliteType.method ReflectliteType.elem #[.agg #[.pointer (some ⟨13, 78, none⟩)]]).run Tryd.prog w = .ok (.iface 129 (.agg #[.pointer (some ⟨13, 76, none⟩)])) w := by kernel_rfl
theorem rl_implementsP (w : World) : (ReflectliteType.relation "Implements" ReflectliteType.implements_ #[.agg #[.pointer (some ⟨13, 76, none⟩)], .iface 129 (.agg #[.pointer (some ⟨13, 27, none⟩)])]).run Tryd.prog w = .ok (.bool true) w := by kernel_rfl
theorem rl_typeOfP (v : Value) (w : World) : (ReflectliteType.typeOf #[.iface 76 v]).run Tryd.prog w = .ok (.iface 129 (.agg #[.pointer (some ⟨13, 76, none⟩)])) w := by kernel_rfl
theorem rl_assignableP (w : World) : (ReflectliteType.relation "AssignableTo" ReflectliteType.assignableTo #[.agg #[.pointer (some ⟨13, 76, none⟩)], .iface 129 (.agg #[.pointer (some ⟨13, 76, none⟩)])]).run Tryd.prog w = .ok (.bool true) w := by kernel_rfl
theorem rl_valueOfP (e : Addr) (w : World) : (ReflectliteValue.unpack (.iface 76 (.pointer (some e)))).run Tryd.prog w
    = .ok (.agg #[.pointer (some ⟨13, 76, none⟩), .pointer (some ⟨w.heap.size, 0, none⟩), .int .u64 150]) (w.alloc (.cells #[.pointer (some e)] 76)) := by kernel_rfl
theorem rl_elemOfPP (w : World) : (Rtype.elem? 78).run Tryd.prog w = .ok (some 76) w := by kernel_rfl
theorem rl_mkP (p : Addr) (w : World) : (ReflectliteValue.mk 76 p ReflectliteValue.flagAddr).run Tryd.prog w = .ok (.agg #[.pointer (some ⟨13, 76, none⟩), .pointer (some p), .int .u64 406]) w := by kernel_rfl
theorem rl_elemVPP (a p : Addr) (W : World) (ha : W.cell? a = some (.pointer (some p))) :
    (ReflectliteValue.method (ReflectliteValue.valueError "reflectlite.Value.Elem" 0) ReflectliteValue.elem #[.agg #[.pointer (some ⟨13, 78, none⟩), .pointer (some a), .int .u64 150]]).run Tryd.prog W
      = .ok (.agg #[.pointer (some ⟨13, 76, none⟩), .pointer (some p), .int .u64 406]) W := by
  rw [rlm]
  simp only [Sem.run_bind, rl_partsPP, Result.andThen]
  simp [ReflectliteValue.elem, loadVar, isAgg, underlying, Tryd.underlying78, ha, Result.andThen, rl_elemOfPP, rl_mkP]
theorem rls (v x : Value) : ReflectliteValue.set #[v, x] = (do
    let (some (dst, a, fl), some (src, b, _)) := (← ReflectliteValue.parts v, ← ReflectliteValue.parts x)
      | unsupported (.noEntry "extern/(internal/reflectlite.Value).Set.zeroValue")
    if fl / ReflectliteValue.flagAddr % 2 == 0 then unsupported (.noEntry "extern/(internal/reflectlite.Value).Set.unaddressable")
    let val ← loadVar src b
    if ← Rtype.directlyAssignable dst src then storeVar dst a val
    else if ← Rtype.implements dst src then
      if (← Rtype.kind src) == 20 then
        match val with
        | .nilIface => unsupported (.noEntry "extern/reflectlite: a nil value of one interface type handed on as a value of another")
        | _ => storeVar dst a val
      else storeVar dst a (.iface src val)
    else panicString ("reflectlite.Set: value of type " ++ (← Rtype.spelt src) ++ " is not assignable to type " ++ (← Rtype.spelt dst))
    pure (.tuple #[])) := rfl
theorem rl_partsPa (a : Addr) (w : World) : (ReflectliteValue.parts (.agg #[.pointer (some ⟨13, 76, none⟩), .pointer (some a), .int .u64 406])).run Tryd.prog w = .ok (some (76, a, 406)) w := by kernel_rfl
theorem rl_partsP (a : Addr) (w : World) : (ReflectliteValue.parts (.agg #[.pointer (some ⟨13, 76, none⟩), .pointer (some a), .int .u64 150])).run Tryd.prog w = .ok (some (76, a, 150)) w := by kernel_rfl
theorem rl_directP (w : World) : (Rtype.directlyAssignable 76 76).run Tryd.prog w = .ok true w := by kernel_rfl
theorem rl_sizeP (w : World) : (sizeOf 76).run Tryd.prog w = .ok 1 w := by kernel_rfl
theorem rl_setP (ta b e : Addr) (old : Value) (W : World) (hb : W.cell? b = some (.pointer (some e))) (ht : W.cell? ta = some old) (hf : W.frozen? ta = false) :
    (ReflectliteValue.set #[.agg #[.pointer (some ⟨13, 76, none⟩), .pointer (some ta), .int .u64 406], .agg #[.pointer (some ⟨13, 76, none⟩), .pointer (some b), .int .u64 150]]).run Tryd.prog W
      = .ok (.tuple #[]) (W.setCell ta (.pointer (some e))) := by
  rw [rls]
  simp only [Sem.run_bind, rl_partsPa, rl_partsP, Result.andThen]
  simp [ReflectliteValue.flagAddr, loadVar, isAgg, underlying, Tryd.underlying76, hb, Result.andThen, rl_directP, storeVar, Value.cells, storeCells, Addr.add]
  rw [run_store Tryd.prog W ta _ _ (by rfl)]
  simp [ht, hf]

/-- What errors.As leaves behind: four new blocks, and the target set. -/
def asWorld (w : World) (e t : Addr) : World :=
  ((((w.alloc (.cells #[.pointer (some t)] 78)).alloc (.cells #[.pointer (some ⟨13, 78, none⟩), .pointer (some ⟨w.heap.size, 0, none⟩), .int .u64 150] 119)).alloc (.cells #[.pointer (some ⟨13, 78, none⟩), .pointer (some ⟨w.heap.size, 0, none⟩), .int .u64 150] 119)).alloc (.cells #[.pointer (some e)] 76)).setCell t (.pointer (some e))

set_option maxHeartbeats 4000000 in
theorem as_hit (e t : Addr) (old : Value) (w : World) (hg : w.cell? ⟨12, 0, none⟩ = some (.iface 129 (.agg #[.pointer (some ⟨13, 27, none⟩)]))) (ht0 : w.cell? t = some old) (hf0 : w.frozen? t = false) :
    Calls Tryd.prog 43 #[.iface 76 (.pointer (some e)), .iface 78 (.pointer (some t))] w fun ev w' => ev = .returned (.bool true) ∧ w' = asWorld w e t := by
  have h6 := @run_callFunc_extern Tryd.prog 68 _ (fun args => ReflectliteValue.unpack (args.getD 0 (.tuple #[]))) Tryd.func68 (by kernel_rfl) (by kernel_rfl) (by kernel_rfl) (by kernel_rfl)
  have h7 := @run_callFunc_extern Tryd.prog 69 _ (ReflectliteValue.methodAny (ReflectliteValue.valueError "reflectlite.Value.Type" 0) (fun t _ _ _ => ReflectliteType.toType t)) Tryd.func69 (by kernel_rfl) (by kernel_rfl) (by kernel_rfl) (by kernel_rfl)
  have h8 := @run_callFunc_extern Tryd.prog 70 _ (ReflectliteValue.method (ReflectliteValue.valueError "reflectlite.Value.IsNil" 0) ReflectliteValue.isNil) Tryd.func70 (by kernel_rfl) (by kernel_rfl) (by kernel_rfl) (by kernel_rfl)
  have h27 := @run_callFunc_extern Tryd.prog 94 _ (ReflectliteType.abiMethod fun t => do pure (.int .u8 (← Rtype.kind t))) Tryd.func94 (by kernel_rfl) (by kernel_rfl) (by kernel_rfl) (by kernel_rfl)
  have h37 := @run_callFunc_extern Tryd.prog 105 _ (ReflectliteType.method ReflectliteType.elem) Tryd.func105 (by kernel_rfl) (by kernel_rfl) (by kernel_rfl) (by kernel_rfl)
  have h38 := @run_callFunc_extern Tryd.prog 106 _ (ReflectliteType.relation "Implements" ReflectliteType.implements_) Tryd.func106 (by kernel_rfl) (by kernel_rfl) (by kernel_rfl) (by kernel_rfl)
  have h10 := @run_callFunc_extern Tryd.prog 66 _ ReflectliteType.typeOf Tryd.func66 (by kernel_rfl) (by kernel_rfl) (by kernel_rfl) (by kernel_rfl)
  have h35 := @run_callFunc_extern Tryd.prog 103 _ (ReflectliteType.relation "AssignableTo" ReflectliteType.assignableTo) Tryd.func103 (by kernel_rfl) (by kernel_rfl) (by kernel_rfl) (by kernel_rfl)
  have h11 := @run_callFunc_extern Tryd.prog 78 _ (ReflectliteValue.method (ReflectliteValue.valueError "reflectlite.Value.Elem" 0) ReflectliteValue.elem) Tryd.func78 (by kernel_rfl) (by kernel_rfl) (by kernel_rfl) (by kernel_rfl)
  have h12 := @run_callFunc_extern Tryd.prog 79 _ ReflectliteValue.set Tryd.func79 (by kernel_rfl) (by kernel_rfl) (by kernel_rfl) (by kernel_rfl)
  have tO := rl_typeOfP
  have mA := rl_methodAssignableTo
  have a25 := rl_assignableP
  have v25 := rl_valueOfP
  have f6 := rl_valueOfPP
  have f7 := rl_typePP
  have mK := rl_methodKind
  have mE := rl_methodElem
  have mI := rl_methodImplements
  have k27 := rl_kindPP
  have k25 := rl_kindP
  have e27 := rl_elemPP
  have i25 := rl_implementsP
  have n8 := rl_isNilPP ⟨w.heap.size, 0, none⟩ t ((w.alloc (.cells #[.pointer (some t)] 78)).alloc (.cells #[.pointer (some ⟨13, 78, none⟩), .pointer (some ⟨w.heap.size, 0, none⟩), .int .u64 150] 119)) (by simp)
  have hlt : 12 < w.heap.size := World.block_lt_of_cell? w _ hg
  have hg2 : ((w.alloc (.cells #[.pointer (some t)] 78)).alloc (.cells #[.pointer (some ⟨13, 78, none⟩), .pointer (some ⟨w.heap.size, 0, none⟩), .int .u64 150] 119)).cell? ⟨12, 0, none⟩ = some (.iface 129 (.agg #[.pointer (some ⟨13, 27, none⟩)])) := by
    rw [World.cell?_alloc_lt _ _ ⟨12, 0, none⟩ (by first | (simp; done) | (simp; omega)), World.cell?_alloc_lt _ _ ⟨12, 0, none⟩ hlt]; exact hg
  have htl : t.block < w.heap.size := World.block_lt_of_cell? w _ ht0
  have el := rl_elemVPP ⟨w.heap.size, 0, none⟩ t (((w.alloc (.cells #[.pointer (some t)] 78)).alloc (.cells #[.pointer (some ⟨13, 78, none⟩), .pointer (some ⟨w.heap.size, 0, none⟩), .int .u64 150] 119)).alloc (.cells #[.pointer (some ⟨13, 78, none⟩), .pointer (some ⟨w.heap.size, 0, none⟩), .int .u64 150] 119)) (by rw [World.cell?_alloc_lt _ _ ⟨w.heap.size, 0, none⟩ (by first | (simp; done) | (simp; omega))]; simp)
  have st := rl_setP t ⟨w.heap.size + 1 + 1 + 1, 0, none⟩ e old ((((w.alloc (.cells #[.pointer (some t)] 78)).alloc (.cells #[.pointer (some ⟨13, 78, none⟩), .pointer (some ⟨w.heap.size, 0, none⟩), .int .u64 150] 119)).alloc (.cells #[.pointer (some ⟨13, 78, none⟩), .pointer (some ⟨w.heap.size, 0, none⟩), .int .u64 150] 119)).alloc (.cells #[.pointer (some e)] 76))
    (by rw [World.cell?_alloc_at _ _ _ _ (by simp)]; rfl)
    (by rw [World.cell?_alloc_lt _ _ t (by first | (simp; done) | (simp; omega)), World.cell?_alloc_lt _ _ t (by first | (simp; done) | (simp; omega)), World.cell?_alloc_lt _ _ t (by first | (simp; done) | (simp; omega)), World.cell?_alloc_lt _ _ t htl]; exact ht0)
    (by rw [World.frozen?_alloc_old _ _ t (by first | (simp; done) | (simp; omega)), World.frozen?_alloc_old _ _ t (by first | (simp; done) | (simp; omega)), World.frozen?_alloc_old _ _ t (by first | (simp; done) | (simp; omega)), World.frozen?_alloc_old _ _ t (Nat.ne_of_lt htl)]; exact hf0)
  go_enter Tryd.func43, Tryd.ntmps43
  go_wp2
  refine wp_loop_rounds 1 ?_
  rw [rounds_succ]
  go_wp2
  go_ret
  exact ⟨rfl, rfl⟩

/-- What a caller of errors.As may know of the world behind it: all that is older than the target is as it was, and the target is set. -/
structure AsPost (w : World) (e t : Addr) (w' : World) : Prop where
  below : Below t.block w w'
  cell : w'.cell? t = some (.pointer (some e))

theorem as_hit_post (e t : Addr) (old : Value) (w : World) (hg : w.cell? ⟨12, 0, none⟩ = some (.iface 129 (.agg #[.pointer (some ⟨13, 27, none⟩)]))) (ht0 : w.cell? t = some old) (hf0 : w.frozen? t = false) :
    Calls Tryd.prog 43 #[.iface 76 (.pointer (some e)), .iface 78 (.pointer (some t))] w fun ev w' => ev = .returned (.bool true) ∧ AsPost w e t w' := by
  refine (as_hit e t old w hg ht0 hf0).mono ?_
  rintro ev w' ⟨rfl, rfl⟩
  have htl : t.block < w.heap.size := World.block_lt_of_cell? w _ ht0
  refine ⟨rfl, ⟨?_, ?_⟩⟩
  · unfold asWorld
    exact Below.setCell ((((((Below.refl _ _).alloc (by omega) _).alloc (by first | (simp; done) | (simp; omega)) _).alloc (by first | (simp; done) | (simp; omega)) _).alloc (by first | (simp; done) | (simp; omega)) _)) (Nat.le_refl _) _
  · unfold asWorld
    obtain ⟨v', hv'⟩ : ∃ v', ((((w.alloc (.cells #[.pointer (some t)] 78)).alloc (.cells #[.pointer (some ⟨13, 78, none⟩), .pointer (some ⟨w.heap.size, 0, none⟩), .int .u64 150] 119)).alloc (.cells #[.pointer (some ⟨13, 78, none⟩), .pointer (some ⟨w.heap.size, 0, none⟩), .int .u64 150] 119)).alloc (.cells #[.pointer (some e)] 76)).cell? t = some v' :=
      ⟨old, by rw [World.cell?_alloc_lt _ _ t (by first | (simp; done) | (simp; omega)), World.cell?_alloc_lt _ _ t (by first | (simp; done) | (simp; omega)), World.cell?_alloc_lt _ _ t (by first | (simp; done) | (simp; omega)), World.cell?_alloc_lt _ _ t htl]; exact ht0⟩
    exact World.cell?_setCell_same' _ _ _ (by rw [hv']; rfl)

/-! ### errors.Is: what its text asks of a sentinel and of a Fault -/
theorem is_typeOf (v : Value) (w : World) : (Extern.ReflectliteType.typeOf #[.iface 144 v]).run Tryd.prog w = .ok (.iface 129 (.agg #[.pointer (some ⟨13, 144, none⟩)])) w := by kernel_rfl
def compM : Array Value → Sem Value := Extern.ReflectliteType.method fun t => do Rtype.noPackHeld "Comparable" t; pure (.bool (← typeInfo t).comparable)
theorem is_comparable (w : World) : (compM #[.agg #[.pointer (some ⟨13, 144, none⟩)]]).run Tryd.prog w = .ok (.bool true) w := by kernel_rfl
theorem is_methodComparable (v : Value) (w : World) : (Go.method 278 129 v "Comparable").run Tryd.prog w = .ok (104, v) w := by kernel_rfl
theorem is_comp : (Tryd.prog.info? 144).map (·.comparable) = some true := by kernel_rfl
theorem is_compF : (Tryd.prog.info? 76).map (·.comparable) = some true := by kernel_rfl
theorem is_size : (Tryd.prog.info? 166).map (·.size) = some 1 := by kernel_rfl
theorem is_sizeF : (Tryd.prog.info? 80).map (·.size) = some 3 := by kernel_rfl
theorem is_noIsE (v : Value) (xT : TypeId) (w : World) : (Instr.typeAssert (.iface 144 v) xT 131 true).run Tryd.prog w = .ok (.tuple #[.nilIface, .bool false]) w := run_typeAssert_lacksB Tryd.underlying131 (by kernel_rfl) (by kernel_rfl) v xT w
theorem is_noIsF (v : Value) (xT : TypeId) (w : World) : (Instr.typeAssert (.iface 76 v) xT 131 true).run Tryd.prog w = .ok (.tuple #[.nilIface, .bool false]) w := run_typeAssert_lacksB Tryd.underlying131 (by kernel_rfl) (by kernel_rfl) v xT w
theorem is_noUnwrapE (v : Value) (xT : TypeId) (w : World) : (Instr.typeAssert (.iface 144 v) xT 134 true).run Tryd.prog w = .ok (.tuple #[.nilIface, .bool false]) w := run_typeAssert_lacksB Tryd.underlying134 (by kernel_rfl) (by kernel_rfl) v xT w
theorem is_noUnwrapsE (v : Value) (xT : TypeId) (w : World) : (Instr.typeAssert (.iface 144 v) xT 136 true).run Tryd.prog w = .ok (.tuple #[.nilIface, .bool false]) w := run_typeAssert_lacksB Tryd.underlying136 (by kernel_rfl) (by kernel_rfl) v xT w
theorem is_hasUnwrapF (v : Value) (xT : TypeId) (w : World) : (Instr.typeAssert (.iface 76 v) xT 134 true).run Tryd.prog w = .ok (.tuple #[.iface 76 v, .bool true]) w := run_typeAssert_hasB Tryd.underlying134 (by kernel_rfl) v xT w
theorem is_methodUnwrap (v : Value) (w : World) : (Go.method 278 76 v "Unwrap").run Tryd.prog w = .ok (98, v) w := by kernel_rfl

set_option maxHeartbeats 4000000 in
/-- errors.Is(e, x): e a Fault that wraps the sentinel x. -/
theorem is_one (g : Nat) (b : Addr) (w : World) (h1 : w.cell? ⟨g, 2, none⟩ = some (.iface 144 (.pointer (some b)))) :
    Calls Tryd.prog 41 #[.iface 76 (.pointer (some ⟨g, 0, none⟩)), .iface 144 (.pointer (some b))] w fun e w' => e = .returned (.bool true) ∧ w' = w := by
  obtain ⟨i, hi, hcmp⟩ := Option.map_eq_some_iff.1 is_comp
  obtain ⟨j, hj, hjs⟩ := Option.map_eq_some_iff.1 is_size
  have h8 := @run_callFunc_extern Tryd.prog 66 _ Extern.ReflectliteType.typeOf Tryd.func66 (by kernel_rfl) (by kernel_rfl) (by kernel_rfl) (by kernel_rfl)
  have h32 := @run_callFunc_extern Tryd.prog 104 _ compM Tryd.func104 (by kernel_rfl) (by kernel_rfl) (by kernel_rfl) (by kernel_rfl)
  have tT := is_typeOf
  have cT := is_comparable
  have mR := is_methodComparable
  have nE := is_noIsE
  have uE := is_noUnwrapE
  have vE := is_noUnwrapsE
  have nW := is_noIsF
  have uW := is_hasUnwrapF
  have mU := is_methodUnwrap
  have heq := run_eql_iface_ptr_same (P := Tryd.prog) w b Tryd.underlying27 Tryd.underlying144 hi hcmp hj
  have hty := run_eql_iface_types (P := Tryd.prog) 76 144 (.pointer (some ⟨g, 0, none⟩)) (.pointer (some b)) Tryd.underlying27 (by decide) w
  go_enter Tryd.func41, Tryd.ntmps41
  go_wp2
  refine wp_loop_rounds 2 ?_
  rw [rounds_succ]
  go_wp2
  rw [rounds_succ]
  go_wp2
  go_ret
  exact ⟨rfl, rfl⟩

set_option maxHeartbeats 4000000 in
/-- errors.Is(e, x): e a Fault that wraps a Fault that wraps the sentinel x. -/
theorem is_two (g g' : Nat) (b : Addr) (w : World) (h0 : w.cell? ⟨g, 2, none⟩ = some (.iface 76 (.pointer (some ⟨g', 0, none⟩)))) (h1 : w.cell? ⟨g', 2, none⟩ = some (.iface 144 (.pointer (some b)))) :
    Calls Tryd.prog 41 #[.iface 76 (.pointer (some ⟨g, 0, none⟩)), .iface 144 (.pointer (some b))] w fun e w' => e = .returned (.bool true) ∧ w' = w := by
  obtain ⟨i, hi, hcmp⟩ := Option.map_eq_some_iff.1 is_comp
  obtain ⟨j, hj, hjs⟩ := Option.map_eq_some_iff.1 is_size
  have h8 := @run_callFunc_extern Tryd.prog 66 _ Extern.ReflectliteType.typeOf Tryd.func66 (by kernel_rfl) (by kernel_rfl) (by kernel_rfl) (by kernel_rfl)
  have h32 := @run_callFunc_extern Tryd.prog 104 _ compM Tryd.func104 (by kernel_rfl) (by kernel_rfl) (by kernel_rfl) (by kernel_rfl)
  have tT := is_typeOf
  have cT := is_comparable
  have mR := is_methodComparable
  have nE := is_noIsE
  have uE := is_noUnwrapE
  have vE := is_noUnwrapsE
  have nW := is_noIsF
  have uW := is_hasUnwrapF
  have mU := is_methodUnwrap
  have heq := run_eql_iface_ptr_same (P := Tryd.prog) w b Tryd.underlying27 Tryd.underlying144 hi hcmp hj
  have hty := run_eql_iface_types (P := Tryd.prog) 76 144 (.pointer (some ⟨g, 0, none⟩)) (.pointer (some b)) Tryd.underlying27 (by decide) w
  have hty' := run_eql_iface_types (P := Tryd.prog) 76 144 (.pointer (some ⟨g', 0, none⟩)) (.pointer (some b)) Tryd.underlying27 (by decide) w
  go_enter Tryd.func41, Tryd.ntmps41
  go_wp2
  refine wp_loop_rounds 3 ?_
  rw [rounds_succ]
  go_wp2
  rw [rounds_succ]
  go_wp2
  rw [rounds_succ]
  go_wp2
  go_ret
  exact ⟨rfl, rfl⟩
end Go.Proofs.YtlnelalmoloalaaDoor
