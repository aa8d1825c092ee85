-- Laid by a program of this session (wip/tools/genx.py) out of the kit's print of the translation.
import Derived.Test.YtfmfojogcghkkaaPx0
import Derived.Test.YtfmfojogcghkkaaPx21
import Derived.Test.YtfmfojogcghkkaaPx33
import Derived.Test.YtfmfojogcghkkaaPx35
import Derived.Test.YtfmfojogcghkkaaPx39
namespace Go.Proofs.Ytfmfojogcghkkaa.P
open Go.RowKit Go.Proofs.YtfmfojogcghkkaaW.PrintWords Go.Proofs.YtfmfojogcghkkaaW.PrintLast Go.Proofs.YtfmfojogcghkkaaW.PrintMore
attribute [local go_sem] max2_int min2_int max_two min_two max_three min_three max_four min_four   -- for this text's walks alone
set_option linter.unusedVariables false
set_option linter.unusedSimpArgs false
def billetlaw06_FlowSame.T16 : Bool × List (List Nat × List Nat) := (true, [([], []), ([0], [0]), ([1], [1]), ([], []), ([3], [3]), ([4], [4]), ([], []), ([6], [6]), ([5, 7, 5], [5, 7]), ([2, 8], [2, 8]), ([9, 8], [9]), ([], []), ([11, 10, 10, 0, 1, 2, 3, 4, 5, 6, 7, 8, 9, 10, 11], [10, 11])])
def billetlaw06_FlowSame.B16 : List Nat := [0, 1, 3, 0, 8, 24, 0, 64, 248, 511, 1023, 0, 4095]
theorem billetlaw06_FlowSame.tab16 : rtab .any (opsOf Try.f14 16) = billetlaw06_FlowSame.T16 := by kernel_rfl
theorem billetlaw06_FlowSame.bits16 : waitsOk billetlaw06_FlowSame.T16.2 billetlaw06_FlowSame.B16 = true := by kernel_rfl
set_option maxHeartbeats 8000000 in
set_option maxRecDepth 100000 in
theorem same16 {Q : Exit → Act → World → Prop} (hPan_ : ∀ (c_ : _) (a_ : Act) (n_ : Tmp) (v_ : Value) (w_ : World), Q (Exit.panic c_) (a_.put (some n_) v_) w_ → Q (Exit.panic c_) a_ w_)
    {k : Nat}
    {a0_0 : Int}
    {A0_1 : Option Addr}
    {c0_1 : Nat}
    {l0_1 : List S41}
    {a1 : Int}
    {a2_0 : Int}
    {a2_1 : Int}
    {a2_2 : Int}
    {w : World}
    {t265 : Int}
    {t266 : List S41}
    {t273 : Int}
    {t274 : Int}
    {gb262 : Nat}
    {gb263 : Nat}
    {gb269 : Nat}
    {Ao17 : Option Addr}
    {co17 : Nat}
    {v271 : Value}
    {gb275 : Nat}
    {gb276 : Nat}
    {wr : World}
    {u15 : Value}
    {u16 : Value}
    {u47 : Value}
    {u48 : Value}
    {u49 : Value}
    {u50 : Value}
    {u51 : Value}
    {u52 : Value}
    {u53 : Value}
    {u54 : Value}
    {u55 : Value}
    {u56 : Value}
    {u57 : Value}
    {u58 : Value}
    {u59 : Value}
    {u60 : Value}
    {u61 : Value}
    {u62 : Value}
    {u63 : Value}
    {u64 : Value}
    {u65 : Value}
    {u66 : Value}
    {u67 : Value}
    {u68 : Value}
    {u69 : Value}
    {u70 : Value}
    {u71 : Value}
    {u72 : Value}
    {u73 : Value}
    {u74 : Value}
    {u75 : Value}
    {u76 : Value}
    {u77 : Value}
    {u78 : Value}
    {u79 : Value}
    {u80 : Value}
    {u81 : Value}
    {u82 : Value}
    {x14_1 : Int}
    {x276001_1 : List S41}
    {x277001_1 : List S41}
    {u276001 : Value}
    {u277001 : Value}
    {k1 : Nat}
    {y300 : List S41}
    {y303 : List S41}
    {y306 : List S41}
    {t309 : Int}
    {t310 : List S41}
    (GE262 : Aside0 (w.heap.size ≤ gb262))
    (GE263 : Aside0 (w.heap.size ≤ gb263))
    (GE269 : Aside0 (w.heap.size ≤ gb269))
    (GE275 : Aside0 (w.heap.size ≤ gb275))
    (GE276 : Aside0 (w.heap.size ≤ gb276))
    (LMc121 : Aside0 (([] : List S41).length + t266.length < 5864062014805))
    (Ny300 : Aside0 (y300 = ([] : List S41) ++ t266))
    (Ny303 : Aside0 (y303 = [{ f0 := a2_0, f1 := a2_1, f2 := a2_2 }]))
    (LMc122 : Aside0 (y300.length + y303.length < 5864062014805))
    (Ny306 : Aside0 (y306 = y300 ++ y303))
    (A123 : Aside0 (billetlaw05_Fit.f k1 (wrap64 (t265 - 2)) y306 = some (t309, t310)))
    (HO_270001 : Aside0 (k41.R 41 wr.drew w.heap.size (fun k_ => some k_ ≠ u276001.ownBlock ∧ some k_ ≠ u277001.ownBlock ∧ k_ ≠ gb263) (Value.slice Ao17 t266.length co17) t266))
    (HO_276001 : Aside0 (k41.R 41 wr.drew w.heap.size (fun k_ => some k_ ≠ (Value.slice Ao17 t266.length co17).ownBlock ∧ some k_ ≠ u277001.ownBlock ∧ k_ ≠ gb263) u276001 x276001_1))
    (HO_277001 : Aside0 (k41.R 41 wr.drew w.heap.size (fun k_ => some k_ ≠ (Value.slice Ao17 t266.length co17).ownBlock ∧ some k_ ≠ u276001.ownBlock ∧ k_ ≠ gb263) u277001 x277001_1))
    (BK262 : Aside0 (wr.drew.heap[gb262]? = some (Obj.cells #[Value.int IntKind.i64 a0_0, Value.slice A0_1 l0_1.length c0_1] 24)))
    (BK263 : Aside0 (wr.drew.heap[gb263]? = some (Obj.cells #[Value.int IntKind.i64 a2_0, Value.int IntKind.i64 a2_1, Value.int IntKind.i64 a2_2] 41)))
    (BK269 : Aside0 (wr.drew.heap[gb269]? = some (Obj.cells #[Value.int IntKind.i64 t265, Value.slice Ao17 t266.length co17] 24)))
    (BK275 : Aside0 (wr.drew.heap[gb275]? = some (Obj.cells #[Value.int IntKind.i64 t265, u276001] 24)))
    (BK276 : Aside0 (wr.drew.heap[gb276]? = some (Obj.cells #[Value.int IntKind.i64 t265, u277001] 24)))
    (HB : Aside0 (Below w.heap.size w wr.drew))
    (hQ_ : ∀ (v301 : Value) (v304 : Value) (Ao149 : Option Addr) (co149 : Nat) (Ao151 : Option Addr) (co151 : Nat) (gb313 : Nat) (w148 : World), 
      Aside0 (k41.R 41 w148 w.heap.size (fun k_ => some k_ ≠ (Value.slice Ao149 y306.length co149).ownBlock ∧ some k_ ≠ (Value.slice Ao151 t310.length co151).ownBlock ∧ some k_ ≠ (Value.slice Ao17 t266.length co17).ownBlock ∧ some k_ ≠ u276001.ownBlock ∧ some k_ ≠ u277001.ownBlock ∧ k_ ≠ gb263) v304 y303) →
      Aside0 (k41.R 41 w148 w.heap.size (fun k_ => some k_ ≠ v304.ownBlock ∧ some k_ ≠ (Value.slice Ao151 t310.length co151).ownBlock ∧ some k_ ≠ (Value.slice Ao17 t266.length co17).ownBlock ∧ some k_ ≠ u276001.ownBlock ∧ some k_ ≠ u277001.ownBlock ∧ k_ ≠ gb263) (Value.slice Ao149 y306.length co149) y306) →
      Aside0 (k41.R 41 w148 w.heap.size (fun k_ => some k_ ≠ v304.ownBlock ∧ some k_ ≠ (Value.slice Ao149 y306.length co149).ownBlock ∧ some k_ ≠ (Value.slice Ao17 t266.length co17).ownBlock ∧ some k_ ≠ u276001.ownBlock ∧ some k_ ≠ u277001.ownBlock ∧ k_ ≠ gb263) (Value.slice Ao151 t310.length co151) t310) →
      Aside0 (k41.R 41 w148 w.heap.size (fun k_ => some k_ ≠ v304.ownBlock ∧ some k_ ≠ (Value.slice Ao149 y306.length co149).ownBlock ∧ some k_ ≠ (Value.slice Ao151 t310.length co151).ownBlock ∧ some k_ ≠ u276001.ownBlock ∧ some k_ ≠ u277001.ownBlock ∧ k_ ≠ gb263) (Value.slice Ao17 t266.length co17) t266) →
      Aside0 (k41.R 41 w148 w.heap.size (fun k_ => some k_ ≠ v304.ownBlock ∧ some k_ ≠ (Value.slice Ao149 y306.length co149).ownBlock ∧ some k_ ≠ (Value.slice Ao151 t310.length co151).ownBlock ∧ some k_ ≠ (Value.slice Ao17 t266.length co17).ownBlock ∧ some k_ ≠ u277001.ownBlock ∧ k_ ≠ gb263) u276001 x276001_1) →
      Aside0 (k41.R 41 w148 w.heap.size (fun k_ => some k_ ≠ v304.ownBlock ∧ some k_ ≠ (Value.slice Ao149 y306.length co149).ownBlock ∧ some k_ ≠ (Value.slice Ao151 t310.length co151).ownBlock ∧ some k_ ≠ (Value.slice Ao17 t266.length co17).ownBlock ∧ some k_ ≠ u276001.ownBlock ∧ k_ ≠ gb263) u277001 x277001_1) →
      Aside0 (w148.heap[gb262]? = some (Obj.cells #[Value.int IntKind.i64 a0_0, Value.slice A0_1 l0_1.length c0_1] 24)) →
      Aside0 (w148.heap[gb263]? = some (Obj.cells #[Value.int IntKind.i64 a2_0, Value.int IntKind.i64 a2_1, Value.int IntKind.i64 a2_2] 41)) →
      Aside0 (w148.heap[gb269]? = some (Obj.cells #[Value.int IntKind.i64 t265, Value.slice Ao17 t266.length co17] 24)) →
      Aside0 (w148.heap[gb275]? = some (Obj.cells #[Value.int IntKind.i64 t265, u276001] 24)) →
      Aside0 (w148.heap[gb276]? = some (Obj.cells #[Value.int IntKind.i64 t265, u277001] 24)) →
      Aside0 (w148.heap[gb313]? = some (Obj.cells #[Value.int IntKind.i64 0, Value.slice none 0 0] 24)) →
      Aside0 (w.heap.size ≤ gb313) →
      Aside0 (w.heap.size ≤ gb313) →
      Aside0 (gb262 ≠ gb313) →
      Aside0 (gb313 ≠ gb262) →
      Aside0 (gb263 ≠ gb313) →
      Aside0 (gb313 ≠ gb263) →
      Aside0 (gb269 ≠ gb313) →
      Aside0 (gb313 ≠ gb269) →
      Aside0 (gb275 ≠ gb313) →
      Aside0 (gb313 ≠ gb275) →
      Aside0 (gb276 ≠ gb313) →
      Aside0 (gb313 ≠ gb276) →
      Aside0 (Below w.heap.size w w148) →
      Q Exit.normal 
    {
      tmps :=
        #[Value.agg #[Value.int IntKind.i64 a0_0, Value.slice A0_1 l0_1.length c0_1], Value.int IntKind.i64 a1,
          Value.agg #[Value.int IntKind.i64 a2_0, Value.int IntKind.i64 a2_1, Value.int IntKind.i64 a2_2],
          Value.pointer (some { block := gb262, off := 0 }), undef, Value.pointer (some { block := gb263, off := 0 }),
          Value.bool false, Value.bool true, Value.pointer (some { block := gb269, off := 0 }), v271,
          Value.int IntKind.i64 t273, Value.int IntKind.i64 t274, Value.pointer (some { block := gb275, off := 0 }),
          Value.pointer (some { block := gb276, off := 0 }), Value.int IntKind.i64 x14_1, u15, u16,
          Value.pointer (some { block := gb313, off := 0 }), undef, undef, undef, undef, undef, undef, undef, undef,
          undef, Value.bool true, Value.agg #[Value.int IntKind.i64 a0_0, Value.slice A0_1 l0_1.length c0_1],
          Value.agg #[Value.int IntKind.i64 t265, Value.slice Ao17 t266.length co17],
          Value.tuple #[v271, Value.int IntKind.i64 t273, Value.int IntKind.i64 t274],
          Value.agg #[Value.int IntKind.i64 t265, Value.slice Ao17 t266.length co17],
          Value.tuple #[v271, Value.int IntKind.i64 t273, Value.int IntKind.i64 t274], v271, Value.int IntKind.i64 t273,
          Value.int IntKind.i64 t274, Value.pointer (some { block := gb269, off := 0 }), Value.int IntKind.i64 t265,
          Value.agg #[Value.int IntKind.i64 t265, Value.slice none 0 0],
          Value.pointer (some { block := gb269, off := 0 }), Value.int IntKind.i64 t265,
          Value.agg #[Value.int IntKind.i64 t265, Value.slice none 0 0], Value.int IntKind.i64 x14_1,
          Value.pointer (some { block := gb269, off := 1 }), Value.slice Ao17 t266.length co17,
          Value.int IntKind.i64 ↑t266.length, Value.bool false, u47, u48, u49, u50, u51, u52, u53, u54, u55, u56, u57,
          u58, u59, u60, u61, u62, u63, u64, u65, u66, u67, u68, u69, u70, u71, u72, u73, u74, u75, u76, u77, u78, u79,
          u80, u81, u82, Value.pointer (some { block := gb269, off := 0 }), Value.int IntKind.i64 t265,
          Value.int IntKind.i64 (wrap64 (t265 - 2)), Value.pointer (some { block := gb269, off := 1 }),
          Value.slice Ao17 t266.length co17, v301,
          Value.agg #[Value.int IntKind.i64 a2_0, Value.int IntKind.i64 a2_1, Value.int IntKind.i64 a2_2], v304,
          Value.slice Ao149 y306.length co149,
          Value.agg #[Value.int IntKind.i64 (wrap64 (t265 - 2)), Value.slice Ao149 y306.length co149],
          Value.agg #[Value.int IntKind.i64 t309, Value.slice Ao151 t310.length co151], undef, undef, undef, undef,
          undef, undef, undef, undef, undef, undef, undef, undef, undef, undef, undef, undef, undef, undef, undef,
          undef, undef, undef, undef, undef, undef, undef, undef, undef, undef, undef, undef, undef, undef, undef,
          undef, undef, undef, undef, undef, undef, undef, undef, undef, undef, undef, undef, undef, undef, undef,
          undef, undef],
      defers := [] }
    ((w148.setCell { block := gb313, off := 0 } (Value.int IntKind.i64 t309)).setCell { block := gb313, off := 1 }
      (Value.slice Ao151 t310.length co151)))
    : Code.wp Try.prog
    (Code.region 16
      #[{ dst := some 83, op := Op.fieldAddr 24 (Operand.tmp 8) 0, type := 0, pos := "law.go:124", after := #[],
          guard := none },
        { dst := some 84, op := Op.load 3 (Operand.tmp 83), type := 3, pos := "law.go:124",
          after := #[{ on := 0, ground := Ground.data }], guard := none },
        { dst := some 85, op := Op.binOp BinOp.sub 3 (Operand.tmp 84) (Operand.const (Value.int IntKind.i64 2)) 3,
          type := 3, pos := "law.go:124", after := #[{ on := 1, ground := Ground.data }], guard := none },
        { dst := some 86, op := Op.fieldAddr 24 (Operand.tmp 8) 1, type := 0, pos := "law.go:124", after := #[],
          guard := none },
        { dst := some 87, op := Op.load 22 (Operand.tmp 86), type := 22, pos := "law.go:124",
          after := #[{ on := 3, ground := Ground.data }], guard := none },
        { dst := some 88,
          op :=
            Op.call
              { callee := Callee.builtin Builtin.append,
                args := #[Operand.const (Value.slice none 0 0), Operand.tmp 87], argTypes := #[22, 22] },
          type := 22, pos := "law.go:124", after := #[{ on := 4, ground := Ground.data }], guard := none },
        { dst := some 89, op := Op.load 41 (Operand.tmp 5), type := 41, pos := "law.go:124", after := #[],
          guard := none },
        { dst := some 90, op := Op.buildSlice 22 1 #[(0, Operand.tmp 89)], type := 22, pos := "law.go:124",
          after := #[{ on := 6, ground := Ground.data }], guard := none },
        { dst := some 91,
          op :=
            Op.call
              { callee := Callee.builtin Builtin.append, args := #[Operand.tmp 88, Operand.tmp 90],
                argTypes := #[22, 22] },
          type := 22, pos := "law.go:124",
          after :=
            #[{ on := 5, ground := Ground.data }, { on := 7, ground := Ground.data },
              { on := 5, ground := Ground.chain }],
          guard := none },
        { dst := some 92, op := Op.build 24 #[(0, Operand.tmp 85), (1, Operand.tmp 91)], type := 24,
          pos := "law.go:124", after := #[{ on := 2, ground := Ground.data }, { on := 8, ground := Ground.data }],
          guard := none },
        { dst := some 93,
          op := Op.call { callee := Callee.value (Operand.func 30), args := #[Operand.tmp 92], argTypes := #[24] },
          type := 24, pos := "law.go:124",
          after := #[{ on := 9, ground := Ground.data }, { on := 8, ground := Ground.chain }], guard := none },
        { dst := some 17, op := Op.alloc 24, type := 0, pos := "law.go:124", after := #[], guard := none },
        { dst := none, op := Op.store 24 (Operand.tmp 17) (Operand.tmp 93), type := 0, pos := "law.go:124",
          after :=
            #[{ on := 11, ground := Ground.data }, { on := 10, ground := Ground.data },
              { on := 10, ground := Ground.chain }, { on := 0, ground := Ground.phase },
              { on := 1, ground := Ground.phase }, { on := 2, ground := Ground.phase },
              { on := 3, ground := Ground.phase }, { on := 4, ground := Ground.phase },
              { on := 5, ground := Ground.phase }, { on := 6, ground := Ground.phase },
              { on := 7, ground := Ground.phase }, { on := 8, ground := Ground.phase },
              { on := 9, ground := Ground.phase }, { on := 10, ground := Ground.phase },
              { on := 11, ground := Ground.phase }],
          guard := none }]
      true)
     Q
    {
      tmps :=
        #[Value.agg #[Value.int IntKind.i64 a0_0, Value.slice A0_1 l0_1.length c0_1], Value.int IntKind.i64 a1,
          Value.agg #[Value.int IntKind.i64 a2_0, Value.int IntKind.i64 a2_1, Value.int IntKind.i64 a2_2],
          Value.pointer (some { block := gb262, off := 0 }), undef, Value.pointer (some { block := gb263, off := 0 }),
          Value.bool false, Value.bool true, Value.pointer (some { block := gb269, off := 0 }), v271,
          Value.int IntKind.i64 t273, Value.int IntKind.i64 t274, Value.pointer (some { block := gb275, off := 0 }),
          Value.pointer (some { block := gb276, off := 0 }), Value.int IntKind.i64 x14_1, u15, u16, undef, undef, undef,
          undef, undef, undef, undef, undef, undef, undef, Value.bool true,
          Value.agg #[Value.int IntKind.i64 a0_0, Value.slice A0_1 l0_1.length c0_1],
          Value.agg #[Value.int IntKind.i64 t265, Value.slice Ao17 t266.length co17],
          Value.tuple #[v271, Value.int IntKind.i64 t273, Value.int IntKind.i64 t274],
          Value.agg #[Value.int IntKind.i64 t265, Value.slice Ao17 t266.length co17],
          Value.tuple #[v271, Value.int IntKind.i64 t273, Value.int IntKind.i64 t274], v271, Value.int IntKind.i64 t273,
          Value.int IntKind.i64 t274, Value.pointer (some { block := gb269, off := 0 }), Value.int IntKind.i64 t265,
          Value.agg #[Value.int IntKind.i64 t265, Value.slice none 0 0],
          Value.pointer (some { block := gb269, off := 0 }), Value.int IntKind.i64 t265,
          Value.agg #[Value.int IntKind.i64 t265, Value.slice none 0 0], Value.int IntKind.i64 x14_1,
          Value.pointer (some { block := gb269, off := 1 }), Value.slice Ao17 t266.length co17,
          Value.int IntKind.i64 ↑t266.length, Value.bool false, u47, u48, u49, u50, u51, u52, u53, u54, u55, u56, u57,
          u58, u59, u60, u61, u62, u63, u64, u65, u66, u67, u68, u69, u70, u71, u72, u73, u74, u75, u76, u77, u78, u79,
          u80, u81, u82, undef, undef, undef, undef, undef, undef, undef, undef, undef, undef, undef, undef, undef,
          undef, undef, undef, undef, undef, undef, undef, undef, undef, undef, undef, undef, undef, undef, undef,
          undef, undef, undef, undef, undef, undef, undef, undef, undef, undef, undef, undef, undef, undef, undef,
          undef, undef, undef, undef, undef, undef, undef, undef, undef, undef, undef, undef, undef, undef, undef,
          undef, undef, undef, undef],
      defers := [] }
    wr := by
  refine start_ (n := 13) (S := fun w' => w'.cell? ⟨gb269, 0, none⟩ = some (.int .i64 t265) ∧ w'.cell? ⟨gb269, 1, none⟩ = some (.slice Ao17 t266.length co17) ∧ w'.cell? ⟨gb263, 0, none⟩ = some (.int .i64 a2_0) ∧ w'.cell? ⟨gb263, 1, none⟩ = some (.int .i64 a2_1) ∧ w'.cell? ⟨gb263, 2, none⟩ = some (.int .i64 a2_2)) (ds := []) #[false, false, false, false, false, false, false, false, false, false, false, false, false] (by kernel_rfl) rfl rfl ⟨(blk_cell BK269.out 0).trans rfl, (blk_cell BK269.out 1).trans rfl, (blk_cell BK263.out 0).trans rfl, (blk_cell BK263.out 1).trans rfl, (blk_cell BK263.out 2).trans rfl⟩ (fun hHeld => ?_); refine with_tabW billetlaw06_FlowSame.tab16 billetlaw06_FlowSame.bits16 (fun HT_ HW_ => ?_)
  generalize wr.drew = w139 at HO_270001 HO_276001 HO_277001 BK262 BK263 BK269 BK275 BK276 HB hHeld ⊢
  refine pure_ (i := 0) (N := some 83) (v := ?_) (a' := ?_) #[true, false, false, false, false, false, false, false, false, false, false, false, false] rfl rfl (any_of HT_.out (by kernel_rfl)) (fun _ _ _ h => hPan_ _ _ _ _ _ h) (Or.inl ⟨by rfl, ?_⟩) ?_ ?_
  rotate_left
  · intro w'
    go_simp
    with_reducible rfl
  rotate_left
  · simp only [Act.put, List.setIfInBounds_toArray, List.set_cons_zero, List.set_cons_succ, i64_w, i32_w]
    rfl
  refine pure_ (i := 3) (N := some 86) (v := ?_) (a' := ?_) #[true, false, false, true, false, false, false, false, false, false, false, false, false] rfl rfl (any_of HT_.out (by kernel_rfl)) (fun _ _ _ h => hPan_ _ _ _ _ _ h) (Or.inl ⟨by rfl, ?_⟩) ?_ ?_
  rotate_left
  · intro w'
    go_simp
    with_reducible rfl
  rotate_left
  · simp only [Act.put, List.setIfInBounds_toArray, List.set_cons_zero, List.set_cons_succ, i64_w, i32_w]
    rfl
  refine take_ (i := 1) (N := some 84) (v := ?_) (a' := ?_) #[true, true, false, true, false, false, false, false, false, false, false, false, false] rfl rfl (take_ofW HT_.out HW_.out (by kernel_rfl)) (fun _ _ _ h => hPan_ _ _ _ _ _ h) (Or.inl ⟨by rfl, ?_⟩) hHeld ?_ ?_
  rotate_left
  · rintro w' ⟨s0, s1, s2, s3, s4⟩
    go_simp
    with_reducible rfl
  rotate_left
  · simp only [Act.put, List.setIfInBounds_toArray, List.set_cons_zero, List.set_cons_succ, i64_w, i32_w]
    rfl
  refine pure_ (i := 2) (N := some 85) (v := ?_) (a' := ?_) #[true, true, true, true, false, false, false, false, false, false, false, false, false] rfl rfl (any_of HT_.out (by kernel_rfl)) (fun _ _ _ h => hPan_ _ _ _ _ _ h) (Or.inl ⟨by rfl, ?_⟩) ?_ ?_
  rotate_left
  · intro w'
    go_simp
    with_reducible rfl
  rotate_left
  · simp only [Act.put, List.setIfInBounds_toArray, List.set_cons_zero, List.set_cons_succ, i64_w, i32_w]
    rfl
  refine take_ (i := 4) (N := some 87) (v := ?_) (a' := ?_) #[true, true, true, true, true, false, false, false, false, false, false, false, false] rfl rfl (take_ofW HT_.out HW_.out (by kernel_rfl)) (fun _ _ _ h => hPan_ _ _ _ _ _ h) (Or.inl ⟨by rfl, ?_⟩) hHeld ?_ ?_
  rotate_left
  · rintro w' ⟨s0, s1, s2, s3, s4⟩
    go_simp
    with_reducible rfl
  rotate_left
  · simp only [Act.put, List.setIfInBounds_toArray, List.set_cons_zero, List.set_cons_succ, i64_w, i32_w]
    rfl
  refine take_ (i := 6) (N := some 89) (v := ?_) (a' := ?_) #[true, true, true, true, true, false, true, false, false, false, false, false, false] rfl rfl (take_ofW HT_.out HW_.out (by kernel_rfl)) (fun _ _ _ h => hPan_ _ _ _ _ _ h) (Or.inl ⟨by rfl, ?_⟩) hHeld ?_ ?_
  rotate_left
  · rintro w' ⟨s0, s1, s2, s3, s4⟩
    go_simp
    with_reducible rfl
  rotate_left
  · simp only [Act.put, List.setIfInBounds_toArray, List.set_cons_zero, List.set_cons_succ, i64_w, i32_w]
    rfl
  refine join_ (σ := Value × Value × Value × Value × Nat) 1 #[true, true, true, true, true, true, true, true, true, true, true, true, false] (fun s_ => [(88, s_.1), (90, s_.2.1), (91, s_.2.2.1), (93, .agg #[.int .i64 t309, s_.2.2.2.1]), (17, .pointer (some ⟨s_.2.2.2.2, 0, none⟩)), (92, .agg #[.int .i64 (wrap64 (t265 - 2)), s_.2.2.1])]) (fun s_ w' => (w'.cell? ⟨gb269, 0, none⟩ = some (.int .i64 t265) ∧ w'.cell? ⟨gb269, 1, none⟩ = some (.slice Ao17 t266.length co17) ∧ w'.cell? ⟨gb263, 0, none⟩ = some (.int .i64 a2_0) ∧ w'.cell? ⟨gb263, 1, none⟩ = some (.int .i64 a2_1) ∧ w'.cell? ⟨gb263, 2, none⟩ = some (.int .i64 a2_2)) ∧ (Kd.R k41 41 w' w.heap.size (fun k_ => some k_ ≠ (s_.2.2.1 : Value).ownBlock ∧ some k_ ≠ (s_.2.2.2.1 : Value).ownBlock ∧ some k_ ≠ (.slice Ao17 t266.length co17 : Value).ownBlock ∧ some k_ ≠ (u276001 : Value).ownBlock ∧ some k_ ≠ (u277001 : Value).ownBlock ∧ k_ ≠ gb263) s_.2.1 y303) ∧ (Kd.R k41 41 w' w.heap.size (fun k_ => some k_ ≠ (s_.2.1 : Value).ownBlock ∧ some k_ ≠ (s_.2.2.2.1 : Value).ownBlock ∧ some k_ ≠ (.slice Ao17 t266.length co17 : Value).ownBlock ∧ some k_ ≠ (u276001 : Value).ownBlock ∧ some k_ ≠ (u277001 : Value).ownBlock ∧ k_ ≠ gb263) s_.2.2.1 y306) ∧ (Kd.R k41 41 w' w.heap.size (fun k_ => some k_ ≠ (s_.2.1 : Value).ownBlock ∧ some k_ ≠ (s_.2.2.1 : Value).ownBlock ∧ some k_ ≠ (.slice Ao17 t266.length co17 : Value).ownBlock ∧ some k_ ≠ (u276001 : Value).ownBlock ∧ some k_ ≠ (u277001 : Value).ownBlock ∧ k_ ≠ gb263) s_.2.2.2.1 t310) ∧ (Kd.R k41 41 w' w.heap.size (fun k_ => some k_ ≠ (s_.2.1 : Value).ownBlock ∧ some k_ ≠ (s_.2.2.1 : Value).ownBlock ∧ some k_ ≠ (s_.2.2.2.1 : Value).ownBlock ∧ some k_ ≠ (u276001 : Value).ownBlock ∧ some k_ ≠ (u277001 : Value).ownBlock ∧ k_ ≠ gb263) (.slice Ao17 t266.length co17) t266) ∧ (Kd.R k41 41 w' w.heap.size (fun k_ => some k_ ≠ (s_.2.1 : Value).ownBlock ∧ some k_ ≠ (s_.2.2.1 : Value).ownBlock ∧ some k_ ≠ (s_.2.2.2.1 : Value).ownBlock ∧ some k_ ≠ (.slice Ao17 t266.length co17 : Value).ownBlock ∧ some k_ ≠ (u277001 : Value).ownBlock ∧ k_ ≠ gb263) u276001 x276001_1) ∧ (Kd.R k41 41 w' w.heap.size (fun k_ => some k_ ≠ (s_.2.1 : Value).ownBlock ∧ some k_ ≠ (s_.2.2.1 : Value).ownBlock ∧ some k_ ≠ (s_.2.2.2.1 : Value).ownBlock ∧ some k_ ≠ (.slice Ao17 t266.length co17 : Value).ownBlock ∧ some k_ ≠ (u276001 : Value).ownBlock ∧ k_ ≠ gb263) u277001 x277001_1) ∧ (w'.heap[gb262]? = some (.cells #[.int .i64 a0_0, .slice A0_1 l0_1.length c0_1] 24 (0, 0))) ∧ (w'.heap[gb263]? = some (.cells #[.int .i64 a2_0, .int .i64 a2_1, .int .i64 a2_2] 41 (0, 0))) ∧ (w'.heap[gb269]? = some (.cells #[.int .i64 t265, .slice Ao17 t266.length co17] 24 (0, 0))) ∧ (w'.heap[gb275]? = some (.cells #[.int .i64 t265, u276001] 24 (0, 0))) ∧ (w'.heap[gb276]? = some (.cells #[.int .i64 t265, u277001] 24 (0, 0))) ∧ (w'.heap[s_.2.2.2.2]? = some (.cells #[.int .i64 0, .slice none 0 0] 24 (0, 0))) ∧ (w.heap.size ≤ s_.2.2.2.2) ∧ (w.heap.size ≤ s_.2.2.2.2) ∧ (gb262 ≠ s_.2.2.2.2) ∧ (s_.2.2.2.2 ≠ gb262) ∧ (gb263 ≠ s_.2.2.2.2) ∧ (s_.2.2.2.2 ≠ gb263) ∧ (gb269 ≠ s_.2.2.2.2) ∧ (s_.2.2.2.2 ≠ gb269) ∧ (gb275 ≠ s_.2.2.2.2) ∧ (s_.2.2.2.2 ≠ gb275) ∧ (gb276 ≠ s_.2.2.2.2) ∧ (s_.2.2.2.2 ≠ gb276) ∧ (Below w.heap.size w w')) ?_ ?_
  rotate_left
  · intro hJ5_7_8_10_11
    refine join_ (σ := Value × Value × Value × Value) 2 #[true, true, true, true, true, true, true, true, true, true, true, false, false] (fun s_ => [(88, s_.1), (90, s_.2.1), (91, s_.2.2.1), (93, .agg #[.int .i64 t309, s_.2.2.2]), (92, .agg #[.int .i64 (wrap64 (t265 - 2)), s_.2.2.1])]) (fun s_ w' => (w'.cell? ⟨gb269, 0, none⟩ = some (.int .i64 t265) ∧ w'.cell? ⟨gb269, 1, none⟩ = some (.slice Ao17 t266.length co17) ∧ w'.cell? ⟨gb263, 0, none⟩ = some (.int .i64 a2_0) ∧ w'.cell? ⟨gb263, 1, none⟩ = some (.int .i64 a2_1) ∧ w'.cell? ⟨gb263, 2, none⟩ = some (.int .i64 a2_2)) ∧ (Kd.R k41 41 w' w.heap.size (fun k_ => some k_ ≠ (s_.2.2.1 : Value).ownBlock ∧ some k_ ≠ (s_.2.2.2 : Value).ownBlock ∧ some k_ ≠ (.slice Ao17 t266.length co17 : Value).ownBlock ∧ some k_ ≠ (u276001 : Value).ownBlock ∧ some k_ ≠ (u277001 : Value).ownBlock ∧ k_ ≠ gb263) s_.2.1 y303) ∧ (Kd.R k41 41 w' w.heap.size (fun k_ => some k_ ≠ (s_.2.1 : Value).ownBlock ∧ some k_ ≠ (s_.2.2.2 : Value).ownBlock ∧ some k_ ≠ (.slice Ao17 t266.length co17 : Value).ownBlock ∧ some k_ ≠ (u276001 : Value).ownBlock ∧ some k_ ≠ (u277001 : Value).ownBlock ∧ k_ ≠ gb263) s_.2.2.1 y306) ∧ (Kd.R k41 41 w' w.heap.size (fun k_ => some k_ ≠ (s_.2.1 : Value).ownBlock ∧ some k_ ≠ (s_.2.2.1 : Value).ownBlock ∧ some k_ ≠ (.slice Ao17 t266.length co17 : Value).ownBlock ∧ some k_ ≠ (u276001 : Value).ownBlock ∧ some k_ ≠ (u277001 : Value).ownBlock ∧ k_ ≠ gb263) s_.2.2.2 t310) ∧ (Kd.R k41 41 w' w.heap.size (fun k_ => some k_ ≠ (s_.2.1 : Value).ownBlock ∧ some k_ ≠ (s_.2.2.1 : Value).ownBlock ∧ some k_ ≠ (s_.2.2.2 : Value).ownBlock ∧ some k_ ≠ (u276001 : Value).ownBlock ∧ some k_ ≠ (u277001 : Value).ownBlock ∧ k_ ≠ gb263) (.slice Ao17 t266.length co17) t266) ∧ (Kd.R k41 41 w' w.heap.size (fun k_ => some k_ ≠ (s_.2.1 : Value).ownBlock ∧ some k_ ≠ (s_.2.2.1 : Value).ownBlock ∧ some k_ ≠ (s_.2.2.2 : Value).ownBlock ∧ some k_ ≠ (.slice Ao17 t266.length co17 : Value).ownBlock ∧ some k_ ≠ (u277001 : Value).ownBlock ∧ k_ ≠ gb263) u276001 x276001_1) ∧ (Kd.R k41 41 w' w.heap.size (fun k_ => some k_ ≠ (s_.2.1 : Value).ownBlock ∧ some k_ ≠ (s_.2.2.1 : Value).ownBlock ∧ some k_ ≠ (s_.2.2.2 : Value).ownBlock ∧ some k_ ≠ (.slice Ao17 t266.length co17 : Value).ownBlock ∧ some k_ ≠ (u276001 : Value).ownBlock ∧ k_ ≠ gb263) u277001 x277001_1) ∧ (w'.heap[gb262]? = some (.cells #[.int .i64 a0_0, .slice A0_1 l0_1.length c0_1] 24 (0, 0))) ∧ (w'.heap[gb263]? = some (.cells #[.int .i64 a2_0, .int .i64 a2_1, .int .i64 a2_2] 41 (0, 0))) ∧ (w'.heap[gb269]? = some (.cells #[.int .i64 t265, .slice Ao17 t266.length co17] 24 (0, 0))) ∧ (w'.heap[gb275]? = some (.cells #[.int .i64 t265, u276001] 24 (0, 0))) ∧ (w'.heap[gb276]? = some (.cells #[.int .i64 t265, u277001] 24 (0, 0))) ∧ (Below w.heap.size w w')) ?_ ?_
    rotate_left
    · intro hJ5_7_8_10
      refine join_ (σ := Value × Value × Value × Nat) 2 #[true, true, true, true, true, true, true, true, true, true, false, true, false] (fun s_ => [(88, s_.1), (90, s_.2.1), (91, s_.2.2.1), (17, .pointer (some ⟨s_.2.2.2, 0, none⟩)), (92, .agg #[.int .i64 (wrap64 (t265 - 2)), s_.2.2.1])]) (fun s_ w' => (w'.cell? ⟨gb269, 0, none⟩ = some (.int .i64 t265) ∧ w'.cell? ⟨gb269, 1, none⟩ = some (.slice Ao17 t266.length co17) ∧ w'.cell? ⟨gb263, 0, none⟩ = some (.int .i64 a2_0) ∧ w'.cell? ⟨gb263, 1, none⟩ = some (.int .i64 a2_1) ∧ w'.cell? ⟨gb263, 2, none⟩ = some (.int .i64 a2_2)) ∧ (Kd.R k41 41 w' w.heap.size (fun k_ => some k_ ≠ (s_.2.2.1 : Value).ownBlock ∧ some k_ ≠ (.slice Ao17 t266.length co17 : Value).ownBlock ∧ some k_ ≠ (u276001 : Value).ownBlock ∧ some k_ ≠ (u277001 : Value).ownBlock ∧ k_ ≠ gb263) s_.2.1 y303) ∧ (Kd.R k41 41 w' w.heap.size (fun k_ => some k_ ≠ (s_.2.1 : Value).ownBlock ∧ some k_ ≠ (.slice Ao17 t266.length co17 : Value).ownBlock ∧ some k_ ≠ (u276001 : Value).ownBlock ∧ some k_ ≠ (u277001 : Value).ownBlock ∧ k_ ≠ gb263) s_.2.2.1 y306) ∧ (Kd.R k41 41 w' w.heap.size (fun k_ => some k_ ≠ (s_.2.1 : Value).ownBlock ∧ some k_ ≠ (s_.2.2.1 : Value).ownBlock ∧ some k_ ≠ (u276001 : Value).ownBlock ∧ some k_ ≠ (u277001 : Value).ownBlock ∧ k_ ≠ gb263) (.slice Ao17 t266.length co17) t266) ∧ (Kd.R k41 41 w' w.heap.size (fun k_ => some k_ ≠ (s_.2.1 : Value).ownBlock ∧ some k_ ≠ (s_.2.2.1 : Value).ownBlock ∧ some k_ ≠ (.slice Ao17 t266.length co17 : Value).ownBlock ∧ some k_ ≠ (u277001 : Value).ownBlock ∧ k_ ≠ gb263) u276001 x276001_1) ∧ (Kd.R k41 41 w' w.heap.size (fun k_ => some k_ ≠ (s_.2.1 : Value).ownBlock ∧ some k_ ≠ (s_.2.2.1 : Value).ownBlock ∧ some k_ ≠ (.slice Ao17 t266.length co17 : Value).ownBlock ∧ some k_ ≠ (u276001 : Value).ownBlock ∧ k_ ≠ gb263) u277001 x277001_1) ∧ (w'.heap[gb262]? = some (.cells #[.int .i64 a0_0, .slice A0_1 l0_1.length c0_1] 24 (0, 0))) ∧ (w'.heap[gb263]? = some (.cells #[.int .i64 a2_0, .int .i64 a2_1, .int .i64 a2_2] 41 (0, 0))) ∧ (w'.heap[gb269]? = some (.cells #[.int .i64 t265, .slice Ao17 t266.length co17] 24 (0, 0))) ∧ (w'.heap[gb275]? = some (.cells #[.int .i64 t265, u276001] 24 (0, 0))) ∧ (w'.heap[gb276]? = some (.cells #[.int .i64 t265, u277001] 24 (0, 0))) ∧ (w'.heap[s_.2.2.2]? = some (.cells #[.int .i64 0, .slice none 0 0] 24 (0, 0))) ∧ (w.heap.size ≤ s_.2.2.2) ∧ (w.heap.size ≤ s_.2.2.2) ∧ (gb262 ≠ s_.2.2.2) ∧ (s_.2.2.2 ≠ gb262) ∧ (gb263 ≠ s_.2.2.2) ∧ (s_.2.2.2 ≠ gb263) ∧ (gb269 ≠ s_.2.2.2) ∧ (s_.2.2.2 ≠ gb269) ∧ (gb275 ≠ s_.2.2.2) ∧ (s_.2.2.2 ≠ gb275) ∧ (gb276 ≠ s_.2.2.2) ∧ (s_.2.2.2 ≠ gb276) ∧ (Below w.heap.size w w')) ?_ ?_
      rotate_left
      · intro hJ5_7_8_11
        refine join_ (σ := Value × Value × Value) 3 #[true, true, true, true, true, true, true, true, true, true, false, false, false] (fun s_ => [(88, s_.1), (90, s_.2.1), (91, s_.2.2), (92, .agg #[.int .i64 (wrap64 (t265 - 2)), s_.2.2])]) (fun s_ w' => (w'.cell? ⟨gb269, 0, none⟩ = some (.int .i64 t265) ∧ w'.cell? ⟨gb269, 1, none⟩ = some (.slice Ao17 t266.length co17) ∧ w'.cell? ⟨gb263, 0, none⟩ = some (.int .i64 a2_0) ∧ w'.cell? ⟨gb263, 1, none⟩ = some (.int .i64 a2_1) ∧ w'.cell? ⟨gb263, 2, none⟩ = some (.int .i64 a2_2)) ∧ (Kd.R k41 41 w' w.heap.size (fun k_ => some k_ ≠ (s_.2.2 : Value).ownBlock ∧ some k_ ≠ (.slice Ao17 t266.length co17 : Value).ownBlock ∧ some k_ ≠ (u276001 : Value).ownBlock ∧ some k_ ≠ (u277001 : Value).ownBlock ∧ k_ ≠ gb263) s_.2.1 y303) ∧ (Kd.R k41 41 w' w.heap.size (fun k_ => some k_ ≠ (s_.2.1 : Value).ownBlock ∧ some k_ ≠ (.slice Ao17 t266.length co17 : Value).ownBlock ∧ some k_ ≠ (u276001 : Value).ownBlock ∧ some k_ ≠ (u277001 : Value).ownBlock ∧ k_ ≠ gb263) s_.2.2 y306) ∧ (Kd.R k41 41 w' w.heap.size (fun k_ => some k_ ≠ (s_.2.1 : Value).ownBlock ∧ some k_ ≠ (s_.2.2 : Value).ownBlock ∧ some k_ ≠ (u276001 : Value).ownBlock ∧ some k_ ≠ (u277001 : Value).ownBlock ∧ k_ ≠ gb263) (.slice Ao17 t266.length co17) t266) ∧ (Kd.R k41 41 w' w.heap.size (fun k_ => some k_ ≠ (s_.2.1 : Value).ownBlock ∧ some k_ ≠ (s_.2.2 : Value).ownBlock ∧ some k_ ≠ (.slice Ao17 t266.length co17 : Value).ownBlock ∧ some k_ ≠ (u277001 : Value).ownBlock ∧ k_ ≠ gb263) u276001 x276001_1) ∧ (Kd.R k41 41 w' w.heap.size (fun k_ => some k_ ≠ (s_.2.1 : Value).ownBlock ∧ some k_ ≠ (s_.2.2 : Value).ownBlock ∧ some k_ ≠ (.slice Ao17 t266.length co17 : Value).ownBlock ∧ some k_ ≠ (u276001 : Value).ownBlock ∧ k_ ≠ gb263) u277001 x277001_1) ∧ (w'.heap[gb262]? = some (.cells #[.int .i64 a0_0, .slice A0_1 l0_1.length c0_1] 24 (0, 0))) ∧ (w'.heap[gb263]? = some (.cells #[.int .i64 a2_0, .int .i64 a2_1, .int .i64 a2_2] 41 (0, 0))) ∧ (w'.heap[gb269]? = some (.cells #[.int .i64 t265, .slice Ao17 t266.length co17] 24 (0, 0))) ∧ (w'.heap[gb275]? = some (.cells #[.int .i64 t265, u276001] 24 (0, 0))) ∧ (w'.heap[gb276]? = some (.cells #[.int .i64 t265, u277001] 24 (0, 0))) ∧ (Below w.heap.size w w')) ?_ ?_
        rotate_left
        · intro hJ5_7_8
          refine join_ (σ := Value × Value × Nat) 4 #[true, true, true, true, true, true, true, true, false, false, false, true, false] (fun s_ => [(88, s_.1), (90, s_.2.1), (17, .pointer (some ⟨s_.2.2, 0, none⟩))]) (fun s_ w' => (w'.cell? ⟨gb269, 0, none⟩ = some (.int .i64 t265) ∧ w'.cell? ⟨gb269, 1, none⟩ = some (.slice Ao17 t266.length co17) ∧ w'.cell? ⟨gb263, 0, none⟩ = some (.int .i64 a2_0) ∧ w'.cell? ⟨gb263, 1, none⟩ = some (.int .i64 a2_1) ∧ w'.cell? ⟨gb263, 2, none⟩ = some (.int .i64 a2_2)) ∧ (Kd.R k41 41 w' w.heap.size (fun k_ => some k_ ≠ (s_.2.1 : Value).ownBlock ∧ some k_ ≠ (.slice Ao17 t266.length co17 : Value).ownBlock ∧ some k_ ≠ (u276001 : Value).ownBlock ∧ some k_ ≠ (u277001 : Value).ownBlock ∧ k_ ≠ gb263) s_.1 y300) ∧ (Kd.R k41 41 w' w.heap.size (fun k_ => some k_ ≠ (s_.1 : Value).ownBlock ∧ some k_ ≠ (.slice Ao17 t266.length co17 : Value).ownBlock ∧ some k_ ≠ (u276001 : Value).ownBlock ∧ some k_ ≠ (u277001 : Value).ownBlock ∧ k_ ≠ gb263) s_.2.1 y303) ∧ (Kd.R k41 41 w' w.heap.size (fun k_ => some k_ ≠ (s_.1 : Value).ownBlock ∧ some k_ ≠ (s_.2.1 : Value).ownBlock ∧ some k_ ≠ (u276001 : Value).ownBlock ∧ some k_ ≠ (u277001 : Value).ownBlock ∧ k_ ≠ gb263) (.slice Ao17 t266.length co17) t266) ∧ (Kd.R k41 41 w' w.heap.size (fun k_ => some k_ ≠ (s_.1 : Value).ownBlock ∧ some k_ ≠ (s_.2.1 : Value).ownBlock ∧ some k_ ≠ (.slice Ao17 t266.length co17 : Value).ownBlock ∧ some k_ ≠ (u277001 : Value).ownBlock ∧ k_ ≠ gb263) u276001 x276001_1) ∧ (Kd.R k41 41 w' w.heap.size (fun k_ => some k_ ≠ (s_.1 : Value).ownBlock ∧ some k_ ≠ (s_.2.1 : Value).ownBlock ∧ some k_ ≠ (.slice Ao17 t266.length co17 : Value).ownBlock ∧ some k_ ≠ (u276001 : Value).ownBlock ∧ k_ ≠ gb263) u277001 x277001_1) ∧ (w'.heap[gb262]? = some (.cells #[.int .i64 a0_0, .slice A0_1 l0_1.length c0_1] 24 (0, 0))) ∧ (w'.heap[gb263]? = some (.cells #[.int .i64 a2_0, .int .i64 a2_1, .int .i64 a2_2] 41 (0, 0))) ∧ (w'.heap[gb269]? = some (.cells #[.int .i64 t265, .slice Ao17 t266.length co17] 24 (0, 0))) ∧ (w'.heap[gb275]? = some (.cells #[.int .i64 t265, u276001] 24 (0, 0))) ∧ (w'.heap[gb276]? = some (.cells #[.int .i64 t265, u277001] 24 (0, 0))) ∧ (w'.heap[s_.2.2]? = some (.cells #[.int .i64 0, .slice none 0 0] 24 (0, 0))) ∧ (w.heap.size ≤ s_.2.2) ∧ (w.heap.size ≤ s_.2.2) ∧ (gb262 ≠ s_.2.2) ∧ (s_.2.2 ≠ gb262) ∧ (gb263 ≠ s_.2.2) ∧ (s_.2.2 ≠ gb263) ∧ (gb269 ≠ s_.2.2) ∧ (s_.2.2 ≠ gb269) ∧ (gb275 ≠ s_.2.2) ∧ (s_.2.2 ≠ gb275) ∧ (gb276 ≠ s_.2.2) ∧ (s_.2.2 ≠ gb276) ∧ (Below w.heap.size w w')) ?_ ?_
          rotate_left
          · intro hJ5_7_11
            refine join_ (σ := Value × Value) 5 #[true, true, true, true, true, true, true, true, false, false, false, false, false] (fun s_ => [(88, s_.1), (90, s_.2)]) (fun s_ w' => (w'.cell? ⟨gb269, 0, none⟩ = some (.int .i64 t265) ∧ w'.cell? ⟨gb269, 1, none⟩ = some (.slice Ao17 t266.length co17) ∧ w'.cell? ⟨gb263, 0, none⟩ = some (.int .i64 a2_0) ∧ w'.cell? ⟨gb263, 1, none⟩ = some (.int .i64 a2_1) ∧ w'.cell? ⟨gb263, 2, none⟩ = some (.int .i64 a2_2)) ∧ (Kd.R k41 41 w' w.heap.size (fun k_ => some k_ ≠ (s_.2 : Value).ownBlock ∧ some k_ ≠ (.slice Ao17 t266.length co17 : Value).ownBlock ∧ some k_ ≠ (u276001 : Value).ownBlock ∧ some k_ ≠ (u277001 : Value).ownBlock ∧ k_ ≠ gb263) s_.1 y300) ∧ (Kd.R k41 41 w' w.heap.size (fun k_ => some k_ ≠ (s_.1 : Value).ownBlock ∧ some k_ ≠ (.slice Ao17 t266.length co17 : Value).ownBlock ∧ some k_ ≠ (u276001 : Value).ownBlock ∧ some k_ ≠ (u277001 : Value).ownBlock ∧ k_ ≠ gb263) s_.2 y303) ∧ (Kd.R k41 41 w' w.heap.size (fun k_ => some k_ ≠ (s_.1 : Value).ownBlock ∧ some k_ ≠ (s_.2 : Value).ownBlock ∧ some k_ ≠ (u276001 : Value).ownBlock ∧ some k_ ≠ (u277001 : Value).ownBlock ∧ k_ ≠ gb263) (.slice Ao17 t266.length co17) t266) ∧ (Kd.R k41 41 w' w.heap.size (fun k_ => some k_ ≠ (s_.1 : Value).ownBlock ∧ some k_ ≠ (s_.2 : Value).ownBlock ∧ some k_ ≠ (.slice Ao17 t266.length co17 : Value).ownBlock ∧ some k_ ≠ (u277001 : Value).ownBlock ∧ k_ ≠ gb263) u276001 x276001_1) ∧ (Kd.R k41 41 w' w.heap.size (fun k_ => some k_ ≠ (s_.1 : Value).ownBlock ∧ some k_ ≠ (s_.2 : Value).ownBlock ∧ some k_ ≠ (.slice Ao17 t266.length co17 : Value).ownBlock ∧ some k_ ≠ (u276001 : Value).ownBlock ∧ k_ ≠ gb263) u277001 x277001_1) ∧ (w'.heap[gb262]? = some (.cells #[.int .i64 a0_0, .slice A0_1 l0_1.length c0_1] 24 (0, 0))) ∧ (w'.heap[gb263]? = some (.cells #[.int .i64 a2_0, .int .i64 a2_1, .int .i64 a2_2] 41 (0, 0))) ∧ (w'.heap[gb269]? = some (.cells #[.int .i64 t265, .slice Ao17 t266.length co17] 24 (0, 0))) ∧ (w'.heap[gb275]? = some (.cells #[.int .i64 t265, u276001] 24 (0, 0))) ∧ (w'.heap[gb276]? = some (.cells #[.int .i64 t265, u277001] 24 (0, 0))) ∧ (Below w.heap.size w w')) ?_ ?_
            rotate_left
            · intro hJ5_7
              refine join_ (σ := Value × Nat) 5 #[true, true, true, true, true, true, true, false, false, false, false, true, false] (fun s_ => [(88, s_.1), (17, .pointer (some ⟨s_.2, 0, none⟩))]) (fun s_ w' => (w'.cell? ⟨gb269, 0, none⟩ = some (.int .i64 t265) ∧ w'.cell? ⟨gb269, 1, none⟩ = some (.slice Ao17 t266.length co17) ∧ w'.cell? ⟨gb263, 0, none⟩ = some (.int .i64 a2_0) ∧ w'.cell? ⟨gb263, 1, none⟩ = some (.int .i64 a2_1) ∧ w'.cell? ⟨gb263, 2, none⟩ = some (.int .i64 a2_2)) ∧ (Kd.R k41 41 w' w.heap.size (fun k_ => some k_ ≠ (.slice Ao17 t266.length co17 : Value).ownBlock ∧ some k_ ≠ (u276001 : Value).ownBlock ∧ some k_ ≠ (u277001 : Value).ownBlock ∧ k_ ≠ gb263) s_.1 y300) ∧ (Kd.R k41 41 w' w.heap.size (fun k_ => some k_ ≠ (s_.1 : Value).ownBlock ∧ some k_ ≠ (u276001 : Value).ownBlock ∧ some k_ ≠ (u277001 : Value).ownBlock ∧ k_ ≠ gb263) (.slice Ao17 t266.length co17) t266) ∧ (Kd.R k41 41 w' w.heap.size (fun k_ => some k_ ≠ (s_.1 : Value).ownBlock ∧ some k_ ≠ (.slice Ao17 t266.length co17 : Value).ownBlock ∧ some k_ ≠ (u277001 : Value).ownBlock ∧ k_ ≠ gb263) u276001 x276001_1) ∧ (Kd.R k41 41 w' w.heap.size (fun k_ => some k_ ≠ (s_.1 : Value).ownBlock ∧ some k_ ≠ (.slice Ao17 t266.length co17 : Value).ownBlock ∧ some k_ ≠ (u276001 : Value).ownBlock ∧ k_ ≠ gb263) u277001 x277001_1) ∧ (w'.heap[gb262]? = some (.cells #[.int .i64 a0_0, .slice A0_1 l0_1.length c0_1] 24 (0, 0))) ∧ (w'.heap[gb263]? = some (.cells #[.int .i64 a2_0, .int .i64 a2_1, .int .i64 a2_2] 41 (0, 0))) ∧ (w'.heap[gb269]? = some (.cells #[.int .i64 t265, .slice Ao17 t266.length co17] 24 (0, 0))) ∧ (w'.heap[gb275]? = some (.cells #[.int .i64 t265, u276001] 24 (0, 0))) ∧ (w'.heap[gb276]? = some (.cells #[.int .i64 t265, u277001] 24 (0, 0))) ∧ (w'.heap[s_.2]? = some (.cells #[.int .i64 0, .slice none 0 0] 24 (0, 0))) ∧ (w.heap.size ≤ s_.2) ∧ (w.heap.size ≤ s_.2) ∧ (gb262 ≠ s_.2) ∧ (s_.2 ≠ gb262) ∧ (gb263 ≠ s_.2) ∧ (s_.2 ≠ gb263) ∧ (gb269 ≠ s_.2) ∧ (s_.2 ≠ gb269) ∧ (gb275 ≠ s_.2) ∧ (s_.2 ≠ gb275) ∧ (gb276 ≠ s_.2) ∧ (s_.2 ≠ gb276) ∧ (Below w.heap.size w w')) ?_ ?_
              rotate_left
              · intro hJ5_11
                refine join_ (σ := Value × Nat) 5 #[true, true, true, true, true, false, true, true, false, false, false, true, false] (fun s_ => [(90, s_.1), (17, .pointer (some ⟨s_.2, 0, none⟩))]) (fun s_ w' => (w'.cell? ⟨gb269, 0, none⟩ = some (.int .i64 t265) ∧ w'.cell? ⟨gb269, 1, none⟩ = some (.slice Ao17 t266.length co17) ∧ w'.cell? ⟨gb263, 0, none⟩ = some (.int .i64 a2_0) ∧ w'.cell? ⟨gb263, 1, none⟩ = some (.int .i64 a2_1) ∧ w'.cell? ⟨gb263, 2, none⟩ = some (.int .i64 a2_2)) ∧ (Kd.R k41 41 w' w.heap.size (fun k_ => some k_ ≠ (.slice Ao17 t266.length co17 : Value).ownBlock ∧ some k_ ≠ (u276001 : Value).ownBlock ∧ some k_ ≠ (u277001 : Value).ownBlock ∧ k_ ≠ gb263) s_.1 y303) ∧ (Kd.R k41 41 w' w.heap.size (fun k_ => some k_ ≠ (s_.1 : Value).ownBlock ∧ some k_ ≠ (u276001 : Value).ownBlock ∧ some k_ ≠ (u277001 : Value).ownBlock ∧ k_ ≠ gb263) (.slice Ao17 t266.length co17) t266) ∧ (Kd.R k41 41 w' w.heap.size (fun k_ => some k_ ≠ (s_.1 : Value).ownBlock ∧ some k_ ≠ (.slice Ao17 t266.length co17 : Value).ownBlock ∧ some k_ ≠ (u277001 : Value).ownBlock ∧ k_ ≠ gb263) u276001 x276001_1) ∧ (Kd.R k41 41 w' w.heap.size (fun k_ => some k_ ≠ (s_.1 : Value).ownBlock ∧ some k_ ≠ (.slice Ao17 t266.length co17 : Value).ownBlock ∧ some k_ ≠ (u276001 : Value).ownBlock ∧ k_ ≠ gb263) u277001 x277001_1) ∧ (w'.heap[gb262]? = some (.cells #[.int .i64 a0_0, .slice A0_1 l0_1.length c0_1] 24 (0, 0))) ∧ (w'.heap[gb263]? = some (.cells #[.int .i64 a2_0, .int .i64 a2_1, .int .i64 a2_2] 41 (0, 0))) ∧ (w'.heap[gb269]? = some (.cells #[.int .i64 t265, .slice Ao17 t266.length co17] 24 (0, 0))) ∧ (w'.heap[gb275]? = some (.cells #[.int .i64 t265, u276001] 24 (0, 0))) ∧ (w'.heap[gb276]? = some (.cells #[.int .i64 t265, u277001] 24 (0, 0))) ∧ (w'.heap[s_.2]? = some (.cells #[.int .i64 0, .slice none 0 0] 24 (0, 0))) ∧ (w.heap.size ≤ s_.2) ∧ (w.heap.size ≤ s_.2) ∧ (gb262 ≠ s_.2) ∧ (s_.2 ≠ gb262) ∧ (gb263 ≠ s_.2) ∧ (s_.2 ≠ gb263) ∧ (gb269 ≠ s_.2) ∧ (s_.2 ≠ gb269) ∧ (gb275 ≠ s_.2) ∧ (s_.2 ≠ gb275) ∧ (gb276 ≠ s_.2) ∧ (s_.2 ≠ gb276) ∧ (Below w.heap.size w w')) ?_ ?_
                rotate_left
                · intro hJ7_11
                  refine join_ (σ := Value) 6 #[true, true, true, true, true, true, true, false, false, false, false, false, false] (fun s_ => [(88, s_)]) (fun s_ w' => (w'.cell? ⟨gb269, 0, none⟩ = some (.int .i64 t265) ∧ w'.cell? ⟨gb269, 1, none⟩ = some (.slice Ao17 t266.length co17) ∧ w'.cell? ⟨gb263, 0, none⟩ = some (.int .i64 a2_0) ∧ w'.cell? ⟨gb263, 1, none⟩ = some (.int .i64 a2_1) ∧ w'.cell? ⟨gb263, 2, none⟩ = some (.int .i64 a2_2)) ∧ (Kd.R k41 41 w' w.heap.size (fun k_ => some k_ ≠ (.slice Ao17 t266.length co17 : Value).ownBlock ∧ some k_ ≠ (u276001 : Value).ownBlock ∧ some k_ ≠ (u277001 : Value).ownBlock ∧ k_ ≠ gb263) s_ y300) ∧ (Kd.R k41 41 w' w.heap.size (fun k_ => some k_ ≠ (s_ : Value).ownBlock ∧ some k_ ≠ (u276001 : Value).ownBlock ∧ some k_ ≠ (u277001 : Value).ownBlock ∧ k_ ≠ gb263) (.slice Ao17 t266.length co17) t266) ∧ (Kd.R k41 41 w' w.heap.size (fun k_ => some k_ ≠ (s_ : Value).ownBlock ∧ some k_ ≠ (.slice Ao17 t266.length co17 : Value).ownBlock ∧ some k_ ≠ (u277001 : Value).ownBlock ∧ k_ ≠ gb263) u276001 x276001_1) ∧ (Kd.R k41 41 w' w.heap.size (fun k_ => some k_ ≠ (s_ : Value).ownBlock ∧ some k_ ≠ (.slice Ao17 t266.length co17 : Value).ownBlock ∧ some k_ ≠ (u276001 : Value).ownBlock ∧ k_ ≠ gb263) u277001 x277001_1) ∧ (w'.heap[gb262]? = some (.cells #[.int .i64 a0_0, .slice A0_1 l0_1.length c0_1] 24 (0, 0))) ∧ (w'.heap[gb263]? = some (.cells #[.int .i64 a2_0, .int .i64 a2_1, .int .i64 a2_2] 41 (0, 0))) ∧ (w'.heap[gb269]? = some (.cells #[.int .i64 t265, .slice Ao17 t266.length co17] 24 (0, 0))) ∧ (w'.heap[gb275]? = some (.cells #[.int .i64 t265, u276001] 24 (0, 0))) ∧ (w'.heap[gb276]? = some (.cells #[.int .i64 t265, u277001] 24 (0, 0))) ∧ (Below w.heap.size w w')) ?_ ?_
                  rotate_left
                  · intro hJ5
                    refine join_ (σ := Value) 6 #[true, true, true, true, true, false, true, true, false, false, false, false, false] (fun s_ => [(90, s_)]) (fun s_ w' => (w'.cell? ⟨gb269, 0, none⟩ = some (.int .i64 t265) ∧ w'.cell? ⟨gb269, 1, none⟩ = some (.slice Ao17 t266.length co17) ∧ w'.cell? ⟨gb263, 0, none⟩ = some (.int .i64 a2_0) ∧ w'.cell? ⟨gb263, 1, none⟩ = some (.int .i64 a2_1) ∧ w'.cell? ⟨gb263, 2, none⟩ = some (.int .i64 a2_2)) ∧ (Kd.R k41 41 w' w.heap.size (fun k_ => some k_ ≠ (.slice Ao17 t266.length co17 : Value).ownBlock ∧ some k_ ≠ (u276001 : Value).ownBlock ∧ some k_ ≠ (u277001 : Value).ownBlock ∧ k_ ≠ gb263) s_ y303) ∧ (Kd.R k41 41 w' w.heap.size (fun k_ => some k_ ≠ (s_ : Value).ownBlock ∧ some k_ ≠ (u276001 : Value).ownBlock ∧ some k_ ≠ (u277001 : Value).ownBlock ∧ k_ ≠ gb263) (.slice Ao17 t266.length co17) t266) ∧ (Kd.R k41 41 w' w.heap.size (fun k_ => some k_ ≠ (s_ : Value).ownBlock ∧ some k_ ≠ (.slice Ao17 t266.length co17 : Value).ownBlock ∧ some k_ ≠ (u277001 : Value).ownBlock ∧ k_ ≠ gb263) u276001 x276001_1) ∧ (Kd.R k41 41 w' w.heap.size (fun k_ => some k_ ≠ (s_ : Value).ownBlock ∧ some k_ ≠ (.slice Ao17 t266.length co17 : Value).ownBlock ∧ some k_ ≠ (u276001 : Value).ownBlock ∧ k_ ≠ gb263) u277001 x277001_1) ∧ (w'.heap[gb262]? = some (.cells #[.int .i64 a0_0, .slice A0_1 l0_1.length c0_1] 24 (0, 0))) ∧ (w'.heap[gb263]? = some (.cells #[.int .i64 a2_0, .int .i64 a2_1, .int .i64 a2_2] 41 (0, 0))) ∧ (w'.heap[gb269]? = some (.cells #[.int .i64 t265, .slice Ao17 t266.length co17] 24 (0, 0))) ∧ (w'.heap[gb275]? = some (.cells #[.int .i64 t265, u276001] 24 (0, 0))) ∧ (w'.heap[gb276]? = some (.cells #[.int .i64 t265, u277001] 24 (0, 0))) ∧ (Below w.heap.size w w')) ?_ ?_
                    rotate_left
                    · intro hJ7
                      refine join_ (σ := Nat) 6 #[true, true, true, true, true, false, true, false, false, false, false, true, false] (fun s_ => [(17, .pointer (some ⟨s_, 0, none⟩))]) (fun s_ w' => (w'.cell? ⟨gb269, 0, none⟩ = some (.int .i64 t265) ∧ w'.cell? ⟨gb269, 1, none⟩ = some (.slice Ao17 t266.length co17) ∧ w'.cell? ⟨gb263, 0, none⟩ = some (.int .i64 a2_0) ∧ w'.cell? ⟨gb263, 1, none⟩ = some (.int .i64 a2_1) ∧ w'.cell? ⟨gb263, 2, none⟩ = some (.int .i64 a2_2)) ∧ (Kd.R k41 41 w' w.heap.size (fun k_ => some k_ ≠ (u276001 : Value).ownBlock ∧ some k_ ≠ (u277001 : Value).ownBlock ∧ k_ ≠ gb263) (.slice Ao17 t266.length co17) t266) ∧ (Kd.R k41 41 w' w.heap.size (fun k_ => some k_ ≠ (.slice Ao17 t266.length co17 : Value).ownBlock ∧ some k_ ≠ (u277001 : Value).ownBlock ∧ k_ ≠ gb263) u276001 x276001_1) ∧ (Kd.R k41 41 w' w.heap.size (fun k_ => some k_ ≠ (.slice Ao17 t266.length co17 : Value).ownBlock ∧ some k_ ≠ (u276001 : Value).ownBlock ∧ k_ ≠ gb263) u277001 x277001_1) ∧ (w'.heap[gb262]? = some (.cells #[.int .i64 a0_0, .slice A0_1 l0_1.length c0_1] 24 (0, 0))) ∧ (w'.heap[gb263]? = some (.cells #[.int .i64 a2_0, .int .i64 a2_1, .int .i64 a2_2] 41 (0, 0))) ∧ (w'.heap[gb269]? = some (.cells #[.int .i64 t265, .slice Ao17 t266.length co17] 24 (0, 0))) ∧ (w'.heap[gb275]? = some (.cells #[.int .i64 t265, u276001] 24 (0, 0))) ∧ (w'.heap[gb276]? = some (.cells #[.int .i64 t265, u277001] 24 (0, 0))) ∧ (w'.heap[s_]? = some (.cells #[.int .i64 0, .slice none 0 0] 24 (0, 0))) ∧ (w.heap.size ≤ s_) ∧ (w.heap.size ≤ s_) ∧ (gb262 ≠ s_) ∧ (s_ ≠ gb262) ∧ (gb263 ≠ s_) ∧ (s_ ≠ gb263) ∧ (gb269 ≠ s_) ∧ (s_ ≠ gb269) ∧ (gb275 ≠ s_) ∧ (s_ ≠ gb275) ∧ (gb276 ≠ s_) ∧ (s_ ≠ gb276) ∧ (Below w.heap.size w w')) ?_ ?_
                      rotate_left
                      · intro hJ11
                        refine three_ (i := 5) (j := 7) (k := 11) (Ni := some 88) (Nj := some 90) (Nk := some 17) #[true, true, true, true, true, true, true, false, false, false, false, false, false] #[true, true, true, true, true, false, true, true, false, false, false, false, false] #[true, true, true, true, true, false, true, false, false, false, false, true, false] rfl rfl rfl rfl rfl rfl (three_of HT_.out (by kernel_rfl)) (by decide) (by decide) (by decide) (fun K hK => ?_) (fun K hK => ?_) (fun K hK => ?_)
                        · skip
                          refine Kd.R_append_rows_step k41 (w0 := w) w.heap.size (by rfl) (.const (.slice none 0 0)) (.tmp 87) 22 41 (.agg #[(.int .i64 0), (.int .i64 0), (.int .i64 0)]) 24 rfl Try.underlying22 info41 rfl (by decide) (by omega) (.slice none 0 0) ([] : List (S41)) t266 _ _ _ (fun k_ => some k_ ≠ (.slice Ao17 t266.length co17 : Value).ownBlock ∧ some k_ ≠ (u276001 : Value).ownBlock ∧ some k_ ≠ (u277001 : Value).ownBlock ∧ k_ ≠ gb263) (fun _ => False) rfl rfl ?aO ?aR (fun _ _ h => h) (fun _ h => h.elim) ?aF ?aB ?aS ?aL ?_
                          (case aR => repeat (first | exact (Kd.R_reads' HO_270001.out).2.2 | (with_reducible refine Kd.C_alloc ?_ _) | (with_reducible refine Kd.C_drewN ?_ _) | (with_reducible refine Kd.C_drew ?_)))
                          (case aB => exact (by repeat (first | (with_reducible first | exact HB.out | apply below_alloc | apply pw_below_drewN | apply below_drew1 | refine below_set ?_ GE262.out | refine below_set ?_ GE263.out | refine below_set ?_ GE269.out | refine below_set ?_ GE275.out | refine below_set ?_ GE276.out) | exact HB.out)))
                          (case aF => exact (fun k_ hk => ⟨Kd.fresh' (Kd.R_lt (by (with_reducible repeat (first | apply Kd.R_alloc | apply Kd.R_drewN | apply Kd.R_drew)); exact HO_270001.out)) k_ hk, Kd.fresh' (Kd.R_lt (by (with_reducible repeat (first | apply Kd.R_alloc | apply Kd.R_drewN | apply Kd.R_drew)); exact HO_276001.out)) k_ hk, Kd.fresh' (Kd.R_lt (by (with_reducible repeat (first | apply Kd.R_alloc | apply Kd.R_drewN | apply Kd.R_drew)); exact HO_277001.out)) k_ hk, Kd.freshB (g := gb263) (o := .cells #[.int .i64 a2_0, .int .i64 a2_1, .int .i64 a2_2] 41 (0, 0)) (by (with_reducible repeat (first | refine blk_drewN ?_ _ | refine blk_drew ?_ | refine blk_alloc ?_ _)); exact BK263.out) k_ hk⟩))
                          (case aO => exact ((Kd.R_nil _ _ _ _ (fun k_ => some k_ ≠ (.slice Ao17 t266.length co17 : Value).ownBlock ∧ some k_ ≠ (u276001 : Value).ownBlock ∧ some k_ ≠ (u277001 : Value).ownBlock ∧ k_ ≠ gb263))))
                          (case aS => exact (below_size (by repeat (first | (with_reducible first | exact HB.out | apply below_alloc | apply pw_below_drewN | apply below_drew1 | refine below_set ?_ GE262.out | refine below_set ?_ GE263.out | refine below_set ?_ GE269.out | refine below_set ?_ GE275.out | refine below_set ?_ GE276.out) | exact HB.out))))
                          (case aL => have := LMc121.out; omega)
                          intro v301 w140 ho hb hg hat
                          rw [← Ny300.out] at ho
                          have n0_ := Aside0.mk (Kd.R_after (Kd.R_apart_nil (by (with_reducible repeat (first | apply Kd.R_alloc | apply Kd.R_drewN | apply Kd.R_drew)); exact HO_270001.out)) hg hat)
                          have n1_ := Aside0.mk (Kd.R_after (Kd.R_apart_nil (by (with_reducible repeat (first | apply Kd.R_alloc | apply Kd.R_drewN | apply Kd.R_drew)); exact HO_276001.out)) hg hat)
                          have n2_ := Aside0.mk (Kd.R_after (Kd.R_apart_nil (by (with_reducible repeat (first | apply Kd.R_alloc | apply Kd.R_drewN | apply Kd.R_drew)); exact HO_277001.out)) hg hat)
                          have n3_ := Aside0.mk (blk_grown (g := gb262) (o := .cells #[.int .i64 a0_0, .slice A0_1 l0_1.length c0_1] 24 (0, 0)) (by (with_reducible repeat (first | refine blk_drewN ?_ _ | refine blk_drew ?_ | refine blk_alloc ?_ _)); exact BK262.out) hg (by simp [Value.ownBlock]))
                          have n4_ := Aside0.mk (blk_grown (g := gb263) (o := .cells #[.int .i64 a2_0, .int .i64 a2_1, .int .i64 a2_2] 41 (0, 0)) (by (with_reducible repeat (first | refine blk_drewN ?_ _ | refine blk_drew ?_ | refine blk_alloc ?_ _)); exact BK263.out) hg (by simp [Value.ownBlock]))
                          have n5_ := Aside0.mk (blk_grown (g := gb269) (o := .cells #[.int .i64 t265, .slice Ao17 t266.length co17] 24 (0, 0)) (by (with_reducible repeat (first | refine blk_drewN ?_ _ | refine blk_drew ?_ | refine blk_alloc ?_ _)); exact BK269.out) hg (by simp [Value.ownBlock]))
                          have n6_ := Aside0.mk (blk_grown (g := gb275) (o := .cells #[.int .i64 t265, u276001] 24 (0, 0)) (by (with_reducible repeat (first | refine blk_drewN ?_ _ | refine blk_drew ?_ | refine blk_alloc ?_ _)); exact BK275.out) hg (by simp [Value.ownBlock]))
                          have n7_ := Aside0.mk (blk_grown (g := gb276) (o := .cells #[.int .i64 t265, u277001] 24 (0, 0)) (by (with_reducible repeat (first | refine blk_drewN ?_ _ | refine blk_drew ?_ | refine blk_alloc ?_ _)); exact BK276.out) hg (by simp [Value.ownBlock]))
                          have n8_ := Aside0.mk (hb)
                          have n9_ := Aside0.mk (ho)
                          clear HO_270001
                          clear HO_276001
                          clear HO_277001
                          clear BK262
                          clear BK263
                          clear BK269
                          clear BK275
                          clear BK276
                          clear HB
                          have HO_270001 := n0_
                          have HO_276001 := n1_
                          have HO_277001 := n2_
                          have BK262 := n3_
                          have BK263 := n4_
                          have BK269 := n5_
                          have BK275 := n6_
                          have BK276 := n7_
                          have HB := n8_
                          have HO302 := n9_
                          clear n0_ n1_ n2_ n3_ n4_ n5_ n6_ n7_ n8_ n9_
                          clear ho hb hg hat
                          refine hK.out _ _ ⟨(blk_cell BK269.out 0).trans rfl, (blk_cell BK269.out 1).trans rfl, (blk_cell BK263.out 0).trans rfl, (blk_cell BK263.out 1).trans rfl, (blk_cell BK263.out 2).trans rfl⟩ (fun hHeld => ?_)
                          clear hK K
                          refine norm_ (a' := ?_) ?_ ?_
                          rotate_left
                          · show Act.put _ (some 88) _ = _
                            simp only [Act.put, List.setIfInBounds_toArray, List.set_cons_zero, List.set_cons_succ, i64_w, i32_w]
                            rfl
                          exact norm_ (by first | (simp only [putAll, Act.put, List.setIfInBounds_toArray, List.set_cons_zero, List.set_cons_succ]; done) | (simp only [putAll, Act.put, List.setIfInBounds_toArray, List.set_cons_zero, List.set_cons_succ]; rfl)) (hJ5 (v301) _ ⟨hHeld, (by (with_reducible repeat (first | apply Kd.R_alloc | apply Kd.R_drewN | apply Kd.R_drew)); exact HO302.out), (by (with_reducible repeat (first | apply Kd.R_alloc | apply Kd.R_drewN | apply Kd.R_drew)); exact Kd.R_mono HO_270001.out (fun _ hk => ⟨hk.2, ⟨hk.1.1, ⟨hk.1.2.1, hk.1.2.2⟩⟩⟩)), (by (with_reducible repeat (first | apply Kd.R_alloc | apply Kd.R_drewN | apply Kd.R_drew)); exact Kd.R_mono HO_276001.out (fun _ hk => ⟨hk.2, ⟨hk.1.1, ⟨hk.1.2.1, hk.1.2.2⟩⟩⟩)), (by (with_reducible repeat (first | apply Kd.R_alloc | apply Kd.R_drewN | apply Kd.R_drew)); exact Kd.R_mono HO_277001.out (fun _ hk => ⟨hk.2, ⟨hk.1.1, ⟨hk.1.2.1, hk.1.2.2⟩⟩⟩)), (by (with_reducible repeat (first | refine blk_drewN ?_ _ | refine blk_drew ?_ | refine blk_alloc ?_ _)); exact BK262.out), (by (with_reducible repeat (first | refine blk_drewN ?_ _ | refine blk_drew ?_ | refine blk_alloc ?_ _)); exact BK263.out), (by (with_reducible repeat (first | refine blk_drewN ?_ _ | refine blk_drew ?_ | refine blk_alloc ?_ _)); exact BK269.out), (by (with_reducible repeat (first | refine blk_drewN ?_ _ | refine blk_drew ?_ | refine blk_alloc ?_ _)); exact BK275.out), (by (with_reducible repeat (first | refine blk_drewN ?_ _ | refine blk_drew ?_ | refine blk_alloc ?_ _)); exact BK276.out), (by repeat (first | (with_reducible first | exact HB.out | apply below_alloc | apply pw_below_drewN | apply below_drew1 | refine below_set ?_ GE262.out | refine below_set ?_ GE263.out | refine below_set ?_ GE269.out | refine below_set ?_ GE275.out | refine below_set ?_ GE276.out) | exact HB.out))⟩)
                        · skip
                          refine Kd.R_lit_step k41 _ 41 ?hg (N := 90) ?hd (xs := ([(⟨a2_0, a2_1, a2_2⟩ : S41)] : List (S41))) (inner := [.int .i64 a2_0, .int .i64 a2_1, .int .i64 a2_2]) (ok := fun _ => True) (okp := fun _ => True) ?hr ?hp (fun _ hk => hk) trivial (Below.refl _ _) (Nat.le_refl _) (by simp) ?_; (case hd => rfl); (case hg => rfl); (case hr => first | (go_simp; done) | (go_simp; rfl)); (case hp => exact (Reps.c3 (show Kd.M k41 _ _ _ (⟨a2_0, a2_1, a2_2⟩ : S41) [.int .i64 a2_0, .int .i64 a2_1, .int .i64 a2_2] from (k41_mkM _ _ _ (⟨a2_0, a2_1, a2_2⟩ : S41) )) (Reps.none _ _)))
                          intro v304 w140 ho141 hb hg_ hnew_
                          clear hg_ hnew_
                          (first | rw [← Ny303.out] at ho141 | (simp only [Int.reduceToNat] at ho141; rw [← Ny303.out] at ho141))
                          have n0_ := Aside0.mk (Kd.R_elder' (by (with_reducible repeat (first | apply Kd.R_alloc | apply Kd.R_drewN | apply Kd.R_drew)); exact HO_270001.out) (Kd.R_base ho141) hb)
                          have n1_ := Aside0.mk (Kd.R_elder' (by (with_reducible repeat (first | apply Kd.R_alloc | apply Kd.R_drewN | apply Kd.R_drew)); exact HO_276001.out) (Kd.R_base ho141) hb)
                          have n2_ := Aside0.mk (Kd.R_elder' (by (with_reducible repeat (first | apply Kd.R_alloc | apply Kd.R_drewN | apply Kd.R_drew)); exact HO_277001.out) (Kd.R_base ho141) hb)
                          have n3_ := Aside0.mk (Kd.R_lower (Kd.R_newB (Kd.R_new' (Kd.R_new' (Kd.R_new' ho141 (Kd.R_lt (by (with_reducible repeat (first | apply Kd.R_alloc | apply Kd.R_drewN | apply Kd.R_drew)); exact HO_270001.out))) (Kd.R_lt (by (with_reducible repeat (first | apply Kd.R_alloc | apply Kd.R_drewN | apply Kd.R_drew)); exact HO_276001.out))) (Kd.R_lt (by (with_reducible repeat (first | apply Kd.R_alloc | apply Kd.R_drewN | apply Kd.R_drew)); exact HO_277001.out))) (g := gb263) (o := .cells #[.int .i64 a2_0, .int .i64 a2_1, .int .i64 a2_2] 41 (0, 0)) (by (with_reducible repeat (first | refine blk_drewN ?_ _ | refine blk_drew ?_ | refine blk_alloc ?_ _)); exact BK263.out)) (below_size (by repeat (first | (with_reducible first | exact HB.out | apply below_alloc | apply pw_below_drewN | apply below_drew1 | refine below_set ?_ GE262.out | refine below_set ?_ GE263.out | refine below_set ?_ GE269.out | refine below_set ?_ GE275.out | refine below_set ?_ GE276.out) | exact HB.out))))
                          have n4_ := Aside0.mk (blk_below (g := gb262) (o := .cells #[.int .i64 a0_0, .slice A0_1 l0_1.length c0_1] 24 (0, 0)) (by (with_reducible repeat (first | refine blk_drewN ?_ _ | refine blk_drew ?_ | refine blk_alloc ?_ _)); exact BK262.out) hb)
                          have n5_ := Aside0.mk (blk_below (g := gb263) (o := .cells #[.int .i64 a2_0, .int .i64 a2_1, .int .i64 a2_2] 41 (0, 0)) (by (with_reducible repeat (first | refine blk_drewN ?_ _ | refine blk_drew ?_ | refine blk_alloc ?_ _)); exact BK263.out) hb)
                          have n6_ := Aside0.mk (blk_below (g := gb269) (o := .cells #[.int .i64 t265, .slice Ao17 t266.length co17] 24 (0, 0)) (by (with_reducible repeat (first | refine blk_drewN ?_ _ | refine blk_drew ?_ | refine blk_alloc ?_ _)); exact BK269.out) hb)
                          have n7_ := Aside0.mk (blk_below (g := gb275) (o := .cells #[.int .i64 t265, u276001] 24 (0, 0)) (by (with_reducible repeat (first | refine blk_drewN ?_ _ | refine blk_drew ?_ | refine blk_alloc ?_ _)); exact BK275.out) hb)
                          have n8_ := Aside0.mk (blk_below (g := gb276) (o := .cells #[.int .i64 t265, u277001] 24 (0, 0)) (by (with_reducible repeat (first | refine blk_drewN ?_ _ | refine blk_drew ?_ | refine blk_alloc ?_ _)); exact BK276.out) hb)
                          have n9_ := Aside0.mk (below_step (by repeat (first | (with_reducible first | exact HB.out | apply below_alloc | apply pw_below_drewN | apply below_drew1 | refine below_set ?_ GE262.out | refine below_set ?_ GE263.out | refine below_set ?_ GE269.out | refine below_set ?_ GE275.out | refine below_set ?_ GE276.out) | exact HB.out)) hb)
                          clear HO_270001
                          clear HO_276001
                          clear HO_277001
                          clear BK262
                          clear BK263
                          clear BK269
                          clear BK275
                          clear BK276
                          clear HB
                          have HO_270001 := n0_
                          have HO_276001 := n1_
                          have HO_277001 := n2_
                          have HO305 := n3_
                          have BK262 := n4_
                          have BK263 := n5_
                          have BK269 := n6_
                          have BK275 := n7_
                          have BK276 := n8_
                          have HB := n9_
                          clear n0_ n1_ n2_ n3_ n4_ n5_ n6_ n7_ n8_ n9_
                          clear hb ho141
                          refine hK.out _ _ ⟨(blk_cell BK269.out 0).trans rfl, (blk_cell BK269.out 1).trans rfl, (blk_cell BK263.out 0).trans rfl, (blk_cell BK263.out 1).trans rfl, (blk_cell BK263.out 2).trans rfl⟩ (fun hHeld => ?_)
                          clear hK K
                          refine norm_ (a' := ?_) ?_ ?_
                          rotate_left
                          · show Act.put _ (some 90) _ = _
                            simp only [Act.put, List.setIfInBounds_toArray, List.set_cons_zero, List.set_cons_succ, i64_w, i32_w]
                            rfl
                          exact norm_ (by first | (simp only [putAll, Act.put, List.setIfInBounds_toArray, List.set_cons_zero, List.set_cons_succ]; done) | (simp only [putAll, Act.put, List.setIfInBounds_toArray, List.set_cons_zero, List.set_cons_succ]; rfl)) (hJ7 (v304) _ ⟨hHeld, (by (with_reducible repeat (first | apply Kd.R_alloc | apply Kd.R_drewN | apply Kd.R_drew)); exact Kd.R_mono HO305.out (fun _ hk => ⟨hk.1.1.1.2, ⟨hk.1.1.2, ⟨hk.1.2, hk.2⟩⟩⟩)), (by (with_reducible repeat (first | apply Kd.R_alloc | apply Kd.R_drewN | apply Kd.R_drew)); exact Kd.R_mono HO_270001.out (fun _ hk => ⟨hk.2, ⟨hk.1.1, ⟨hk.1.2.1, hk.1.2.2⟩⟩⟩)), (by (with_reducible repeat (first | apply Kd.R_alloc | apply Kd.R_drewN | apply Kd.R_drew)); exact Kd.R_mono HO_276001.out (fun _ hk => ⟨hk.2, ⟨hk.1.1, ⟨hk.1.2.1, hk.1.2.2⟩⟩⟩)), (by (with_reducible repeat (first | apply Kd.R_alloc | apply Kd.R_drewN | apply Kd.R_drew)); exact Kd.R_mono HO_277001.out (fun _ hk => ⟨hk.2, ⟨hk.1.1, ⟨hk.1.2.1, hk.1.2.2⟩⟩⟩)), (by (with_reducible repeat (first | refine blk_drewN ?_ _ | refine blk_drew ?_ | refine blk_alloc ?_ _)); exact BK262.out), (by (with_reducible repeat (first | refine blk_drewN ?_ _ | refine blk_drew ?_ | refine blk_alloc ?_ _)); exact BK263.out), (by (with_reducible repeat (first | refine blk_drewN ?_ _ | refine blk_drew ?_ | refine blk_alloc ?_ _)); exact BK269.out), (by (with_reducible repeat (first | refine blk_drewN ?_ _ | refine blk_drew ?_ | refine blk_alloc ?_ _)); exact BK275.out), (by (with_reducible repeat (first | refine blk_drewN ?_ _ | refine blk_drew ?_ | refine blk_alloc ?_ _)); exact BK276.out), (by repeat (first | (with_reducible first | exact HB.out | apply below_alloc | apply pw_below_drewN | apply below_drew1 | refine below_set ?_ GE262.out | refine below_set ?_ GE263.out | refine below_set ?_ GE269.out | refine below_set ?_ GE275.out | refine below_set ?_ GE276.out) | exact HB.out))⟩)
                        · skip
                          refine box_step ?hg (N := 17) ?hd (cs := #[.int .i64 0, .slice none 0 0]) (t := 24) ?hr ?_; (case hd => rfl); (case hg => rfl); (case hr => first | (go_simp; done) | (go_simp; rfl))
                          intro gb313 hg w140 hbox hb
                          have n0_ := Aside0.mk (Kd.R_below (by (with_reducible repeat (first | apply Kd.R_alloc | apply Kd.R_drewN | apply Kd.R_drew)); exact HO_270001.out) hb)
                          have n1_ := Aside0.mk (Kd.R_below (by (with_reducible repeat (first | apply Kd.R_alloc | apply Kd.R_drewN | apply Kd.R_drew)); exact HO_276001.out) hb)
                          have n2_ := Aside0.mk (Kd.R_below (by (with_reducible repeat (first | apply Kd.R_alloc | apply Kd.R_drewN | apply Kd.R_drew)); exact HO_277001.out) hb)
                          have n3_ := Aside0.mk (blk_below (g := gb262) (o := .cells #[.int .i64 a0_0, .slice A0_1 l0_1.length c0_1] 24 (0, 0)) (by (with_reducible repeat (first | refine blk_drewN ?_ _ | refine blk_drew ?_ | refine blk_alloc ?_ _)); exact BK262.out) hb)
                          have n4_ := Aside0.mk (blk_below (g := gb263) (o := .cells #[.int .i64 a2_0, .int .i64 a2_1, .int .i64 a2_2] 41 (0, 0)) (by (with_reducible repeat (first | refine blk_drewN ?_ _ | refine blk_drew ?_ | refine blk_alloc ?_ _)); exact BK263.out) hb)
                          have n5_ := Aside0.mk (blk_below (g := gb269) (o := .cells #[.int .i64 t265, .slice Ao17 t266.length co17] 24 (0, 0)) (by (with_reducible repeat (first | refine blk_drewN ?_ _ | refine blk_drew ?_ | refine blk_alloc ?_ _)); exact BK269.out) hb)
                          have n6_ := Aside0.mk (blk_below (g := gb275) (o := .cells #[.int .i64 t265, u276001] 24 (0, 0)) (by (with_reducible repeat (first | refine blk_drewN ?_ _ | refine blk_drew ?_ | refine blk_alloc ?_ _)); exact BK275.out) hb)
                          have n7_ := Aside0.mk (blk_below (g := gb276) (o := .cells #[.int .i64 t265, u277001] 24 (0, 0)) (by (with_reducible repeat (first | refine blk_drewN ?_ _ | refine blk_drew ?_ | refine blk_alloc ?_ _)); exact BK276.out) hb)
                          have n8_ := Aside0.mk (below_step (by repeat (first | (with_reducible first | exact HB.out | apply below_alloc | apply pw_below_drewN | apply below_drew1 | refine below_set ?_ GE262.out | refine below_set ?_ GE263.out | refine below_set ?_ GE269.out | refine below_set ?_ GE275.out | refine below_set ?_ GE276.out) | exact HB.out)) hb)
                          have n9_ := Aside0.mk (hbox)
                          have n10_ := Aside0.mk ((by rw [hg]; exact (below_size (by repeat (first | (with_reducible first | exact HB.out | apply below_alloc | apply pw_below_drewN | apply below_drew1 | refine below_set ?_ GE262.out | refine below_set ?_ GE263.out | refine below_set ?_ GE269.out | refine below_set ?_ GE275.out | refine below_set ?_ GE276.out) | exact HB.out))) : w.heap.size ≤ gb313))
                          have n11_ := Aside0.mk ((by rw [hg]; exact (below_size (by repeat (first | (with_reducible first | exact HB.out | apply below_alloc | apply pw_below_drewN | apply below_drew1 | refine below_set ?_ GE262.out | refine below_set ?_ GE263.out | refine below_set ?_ GE269.out | refine below_set ?_ GE275.out | refine below_set ?_ GE276.out) | exact HB.out))) : w.heap.size ≤ gb313))
                          have n12_ := Aside0.mk ((by rw [hg]; exact Nat.ne_of_lt (blk_lt (g := gb262) (o := .cells #[.int .i64 a0_0, .slice A0_1 l0_1.length c0_1] 24 (0, 0)) (by (with_reducible repeat (first | refine blk_drewN ?_ _ | refine blk_drew ?_ | refine blk_alloc ?_ _)); exact BK262.out)) : gb262 ≠ gb313))
                          have n13_ := Aside0.mk ((by rw [hg]; exact Nat.ne_of_gt (blk_lt (g := gb262) (o := .cells #[.int .i64 a0_0, .slice A0_1 l0_1.length c0_1] 24 (0, 0)) (by (with_reducible repeat (first | refine blk_drewN ?_ _ | refine blk_drew ?_ | refine blk_alloc ?_ _)); exact BK262.out)) : gb313 ≠ gb262))
                          have n14_ := Aside0.mk ((by rw [hg]; exact Nat.ne_of_lt (blk_lt (g := gb263) (o := .cells #[.int .i64 a2_0, .int .i64 a2_1, .int .i64 a2_2] 41 (0, 0)) (by (with_reducible repeat (first | refine blk_drewN ?_ _ | refine blk_drew ?_ | refine blk_alloc ?_ _)); exact BK263.out)) : gb263 ≠ gb313))
                          have n15_ := Aside0.mk ((by rw [hg]; exact Nat.ne_of_gt (blk_lt (g := gb263) (o := .cells #[.int .i64 a2_0, .int .i64 a2_1, .int .i64 a2_2] 41 (0, 0)) (by (with_reducible repeat (first | refine blk_drewN ?_ _ | refine blk_drew ?_ | refine blk_alloc ?_ _)); exact BK263.out)) : gb313 ≠ gb263))
                          have n16_ := Aside0.mk ((by rw [hg]; exact Nat.ne_of_lt (blk_lt (g := gb269) (o := .cells #[.int .i64 t265, .slice Ao17 t266.length co17] 24 (0, 0)) (by (with_reducible repeat (first | refine blk_drewN ?_ _ | refine blk_drew ?_ | refine blk_alloc ?_ _)); exact BK269.out)) : gb269 ≠ gb313))
                          have n17_ := Aside0.mk ((by rw [hg]; exact Nat.ne_of_gt (blk_lt (g := gb269) (o := .cells #[.int .i64 t265, .slice Ao17 t266.length co17] 24 (0, 0)) (by (with_reducible repeat (first | refine blk_drewN ?_ _ | refine blk_drew ?_ | refine blk_alloc ?_ _)); exact BK269.out)) : gb313 ≠ gb269))
                          have n18_ := Aside0.mk ((by rw [hg]; exact Nat.ne_of_lt (blk_lt (g := gb275) (o := .cells #[.int .i64 t265, u276001] 24 (0, 0)) (by (with_reducible repeat (first | refine blk_drewN ?_ _ | refine blk_drew ?_ | refine blk_alloc ?_ _)); exact BK275.out)) : gb275 ≠ gb313))
                          have n19_ := Aside0.mk ((by rw [hg]; exact Nat.ne_of_gt (blk_lt (g := gb275) (o := .cells #[.int .i64 t265, u276001] 24 (0, 0)) (by (with_reducible repeat (first | refine blk_drewN ?_ _ | refine blk_drew ?_ | refine blk_alloc ?_ _)); exact BK275.out)) : gb313 ≠ gb275))
                          have n20_ := Aside0.mk ((by rw [hg]; exact Nat.ne_of_lt (blk_lt (g := gb276) (o := .cells #[.int .i64 t265, u277001] 24 (0, 0)) (by (with_reducible repeat (first | refine blk_drewN ?_ _ | refine blk_drew ?_ | refine blk_alloc ?_ _)); exact BK276.out)) : gb276 ≠ gb313))
                          have n21_ := Aside0.mk ((by rw [hg]; exact Nat.ne_of_gt (blk_lt (g := gb276) (o := .cells #[.int .i64 t265, u277001] 24 (0, 0)) (by (with_reducible repeat (first | refine blk_drewN ?_ _ | refine blk_drew ?_ | refine blk_alloc ?_ _)); exact BK276.out)) : gb313 ≠ gb276))
                          clear HO_270001
                          clear HO_276001
                          clear HO_277001
                          clear BK262
                          clear BK263
                          clear BK269
                          clear BK275
                          clear BK276
                          clear HB
                          have HO_270001 := n0_
                          have HO_276001 := n1_
                          have HO_277001 := n2_
                          have BK262 := n3_
                          have BK263 := n4_
                          have BK269 := n5_
                          have BK275 := n6_
                          have BK276 := n7_
                          have HB := n8_
                          have BK313 := n9_
                          have GW313 := n10_
                          have GE313 := n11_
                          have NB262_313 := n12_
                          have NB313_262 := n13_
                          have NB263_313 := n14_
                          have NB313_263 := n15_
                          have NB269_313 := n16_
                          have NB313_269 := n17_
                          have NB275_313 := n18_
                          have NB313_275 := n19_
                          have NB276_313 := n20_
                          have NB313_276 := n21_
                          clear n0_ n1_ n2_ n3_ n4_ n5_ n6_ n7_ n8_ n9_ n10_ n11_ n12_ n13_ n14_ n15_ n16_ n17_ n18_ n19_ n20_ n21_
                          clear hb hbox hg
                          refine hK.out _ _ ⟨(blk_cell BK269.out 0).trans rfl, (blk_cell BK269.out 1).trans rfl, (blk_cell BK263.out 0).trans rfl, (blk_cell BK263.out 1).trans rfl, (blk_cell BK263.out 2).trans rfl⟩ (fun hHeld => ?_)
                          clear hK K
                          refine norm_ (a' := ?_) ?_ ?_
                          rotate_left
                          · show Act.put _ (some 17) _ = _
                            simp only [Act.put, List.setIfInBounds_toArray, List.set_cons_zero, List.set_cons_succ, i64_w, i32_w]
                            rfl
                          exact norm_ (by first | (simp only [putAll, Act.put, List.setIfInBounds_toArray, List.set_cons_zero, List.set_cons_succ]; done) | (simp only [putAll, Act.put, List.setIfInBounds_toArray, List.set_cons_zero, List.set_cons_succ]; rfl)) (hJ11 (gb313) _ ⟨hHeld, (by (with_reducible repeat (first | apply Kd.R_alloc | apply Kd.R_drewN | apply Kd.R_drew)); exact HO_270001.out), (by (with_reducible repeat (first | apply Kd.R_alloc | apply Kd.R_drewN | apply Kd.R_drew)); exact HO_276001.out), (by (with_reducible repeat (first | apply Kd.R_alloc | apply Kd.R_drewN | apply Kd.R_drew)); exact HO_277001.out), (by (with_reducible repeat (first | refine blk_drewN ?_ _ | refine blk_drew ?_ | refine blk_alloc ?_ _)); exact BK262.out), (by (with_reducible repeat (first | refine blk_drewN ?_ _ | refine blk_drew ?_ | refine blk_alloc ?_ _)); exact BK263.out), (by (with_reducible repeat (first | refine blk_drewN ?_ _ | refine blk_drew ?_ | refine blk_alloc ?_ _)); exact BK269.out), (by (with_reducible repeat (first | refine blk_drewN ?_ _ | refine blk_drew ?_ | refine blk_alloc ?_ _)); exact BK275.out), (by (with_reducible repeat (first | refine blk_drewN ?_ _ | refine blk_drew ?_ | refine blk_alloc ?_ _)); exact BK276.out), (by (with_reducible repeat (first | refine blk_drewN ?_ _ | refine blk_drew ?_ | refine blk_alloc ?_ _)); exact BK313.out), GW313.out, GE313.out, NB262_313.out, NB313_262.out, NB263_313.out, NB313_263.out, NB269_313.out, NB313_269.out, NB275_313.out, NB313_275.out, NB276_313.out, NB313_276.out, (by repeat (first | (with_reducible first | exact HB.out | apply below_alloc | apply pw_below_drewN | apply below_drew1 | refine below_set ?_ GE262.out | refine below_set ?_ GE263.out | refine below_set ?_ GE269.out | refine below_set ?_ GE275.out | refine below_set ?_ GE276.out | refine below_set ?_ GE313.out) | exact HB.out))⟩)
                      · skip
                        rintro gb313 w141 ⟨hS_, h0_, h1_, h2_, h3_, h4_, h5_, h6_, h7_, h8_, h9_, h10_, h11_, h12_, h13_, h14_, h15_, h16_, h17_, h18_, h19_, h20_, h21_⟩
                        have n0_ : Aside0 (Kd.R k41 41 w141 w.heap.size (fun k_ => some k_ ≠ (u276001 : Value).ownBlock ∧ some k_ ≠ (u277001 : Value).ownBlock ∧ k_ ≠ gb263) (.slice Ao17 t266.length co17) t266) := ⟨h0_⟩
                        have n1_ : Aside0 (Kd.R k41 41 w141 w.heap.size (fun k_ => some k_ ≠ (.slice Ao17 t266.length co17 : Value).ownBlock ∧ some k_ ≠ (u277001 : Value).ownBlock ∧ k_ ≠ gb263) u276001 x276001_1) := ⟨h1_⟩
                        have n2_ : Aside0 (Kd.R k41 41 w141 w.heap.size (fun k_ => some k_ ≠ (.slice Ao17 t266.length co17 : Value).ownBlock ∧ some k_ ≠ (u276001 : Value).ownBlock ∧ k_ ≠ gb263) u277001 x277001_1) := ⟨h2_⟩
                        have n3_ : Aside0 (w141.heap[gb262]? = some (.cells #[.int .i64 a0_0, .slice A0_1 l0_1.length c0_1] 24 (0, 0))) := ⟨h3_⟩
                        have n4_ : Aside0 (w141.heap[gb263]? = some (.cells #[.int .i64 a2_0, .int .i64 a2_1, .int .i64 a2_2] 41 (0, 0))) := ⟨h4_⟩
                        have n5_ : Aside0 (w141.heap[gb269]? = some (.cells #[.int .i64 t265, .slice Ao17 t266.length co17] 24 (0, 0))) := ⟨h5_⟩
                        have n6_ : Aside0 (w141.heap[gb275]? = some (.cells #[.int .i64 t265, u276001] 24 (0, 0))) := ⟨h6_⟩
                        have n7_ : Aside0 (w141.heap[gb276]? = some (.cells #[.int .i64 t265, u277001] 24 (0, 0))) := ⟨h7_⟩
                        have n8_ : Aside0 (w141.heap[gb313]? = some (.cells #[.int .i64 0, .slice none 0 0] 24 (0, 0))) := ⟨h8_⟩
                        have n9_ : Aside0 (w.heap.size ≤ gb313) := ⟨h9_⟩
                        have n10_ : Aside0 (w.heap.size ≤ gb313) := ⟨h10_⟩
                        have n11_ : Aside0 (gb262 ≠ gb313) := ⟨h11_⟩
                        have n12_ : Aside0 (gb313 ≠ gb262) := ⟨h12_⟩
                        have n13_ : Aside0 (gb263 ≠ gb313) := ⟨h13_⟩
                        have n14_ : Aside0 (gb313 ≠ gb263) := ⟨h14_⟩
                        have n15_ : Aside0 (gb269 ≠ gb313) := ⟨h15_⟩
                        have n16_ : Aside0 (gb313 ≠ gb269) := ⟨h16_⟩
                        have n17_ : Aside0 (gb275 ≠ gb313) := ⟨h17_⟩
                        have n18_ : Aside0 (gb313 ≠ gb275) := ⟨h18_⟩
                        have n19_ : Aside0 (gb276 ≠ gb313) := ⟨h19_⟩
                        have n20_ : Aside0 (gb313 ≠ gb276) := ⟨h20_⟩
                        have n21_ : Aside0 (Below w.heap.size w w141) := ⟨h21_⟩
                        clear HO_270001
                        clear HO_276001
                        clear HO_277001
                        clear BK262
                        clear BK263
                        clear BK269
                        clear BK275
                        clear BK276
                        clear HB
                        clear h0_ h1_ h2_ h3_ h4_ h5_ h6_ h7_ h8_ h9_ h10_ h11_ h12_ h13_ h14_ h15_ h16_ h17_ h18_ h19_ h20_ h21_
                        have HO_270001 := n0_
                        have HO_276001 := n1_
                        have HO_277001 := n2_
                        have BK262 := n3_
                        have BK263 := n4_
                        have BK269 := n5_
                        have BK275 := n6_
                        have BK276 := n7_
                        have BK313 := n8_
                        have GW313 := n9_
                        have GE313 := n10_
                        have NB262_313 := n11_
                        have NB313_262 := n12_
                        have NB263_313 := n13_
                        have NB313_263 := n14_
                        have NB269_313 := n15_
                        have NB313_269 := n16_
                        have NB275_313 := n17_
                        have NB313_275 := n18_
                        have NB276_313 := n19_
                        have NB313_276 := n20_
                        have HB := n21_
                        clear n0_ n1_ n2_ n3_ n4_ n5_ n6_ n7_ n8_ n9_ n10_ n11_ n12_ n13_ n14_ n15_ n16_ n17_ n18_ n19_ n20_ n21_
                        have hHeld : w141.cell? ⟨gb269, 0, none⟩ = some (.int .i64 t265) ∧ w141.cell? ⟨gb269, 1, none⟩ = some (.slice Ao17 t266.length co17) ∧ w141.cell? ⟨gb263, 0, none⟩ = some (.int .i64 a2_0) ∧ w141.cell? ⟨gb263, 1, none⟩ = some (.int .i64 a2_1) ∧ w141.cell? ⟨gb263, 2, none⟩ = some (.int .i64 a2_2) := hS_
                        refine norm_ (a' := ?_) ?_ ?_
                        rotate_left
                        · simp only [putAll, Act.put, List.setIfInBounds_toArray, List.set_cons_zero, List.set_cons_succ]
                          rfl
                        refine two_ (i := 5) (j := 7) (Ni := some 88) (Nj := some 90) #[true, true, true, true, true, true, true, false, false, false, false, true, false] #[true, true, true, true, true, false, true, true, false, false, false, true, false] rfl rfl rfl rfl (two_of HT_.out (by kernel_rfl)) (by decide) (by decide) (fun K hK => ?_) (fun K hK => ?_)
                        · skip
                          refine Kd.R_append_rows_step k41 (w0 := w) w.heap.size (by rfl) (.const (.slice none 0 0)) (.tmp 87) 22 41 (.agg #[(.int .i64 0), (.int .i64 0), (.int .i64 0)]) 24 rfl Try.underlying22 info41 rfl (by decide) (by omega) (.slice none 0 0) ([] : List (S41)) t266 _ _ _ (fun k_ => some k_ ≠ (.slice Ao17 t266.length co17 : Value).ownBlock ∧ some k_ ≠ (u276001 : Value).ownBlock ∧ some k_ ≠ (u277001 : Value).ownBlock ∧ k_ ≠ gb263) (fun _ => False) rfl rfl ?aO ?aR (fun _ _ h => h) (fun _ h => h.elim) ?aF ?aB ?aS ?aL ?_
                          (case aR => repeat (first | exact (Kd.R_reads' HO_270001.out).2.2 | (with_reducible refine Kd.C_alloc ?_ _) | (with_reducible refine Kd.C_drewN ?_ _) | (with_reducible refine Kd.C_drew ?_)))
                          (case aB => exact (by repeat (first | (with_reducible first | exact HB.out | apply below_alloc | apply pw_below_drewN | apply below_drew1 | refine below_set ?_ GE262.out | refine below_set ?_ GE263.out | refine below_set ?_ GE269.out | refine below_set ?_ GE275.out | refine below_set ?_ GE276.out | refine below_set ?_ GE313.out) | exact HB.out)))
                          (case aF => exact (fun k_ hk => ⟨Kd.fresh' (Kd.R_lt (by (with_reducible repeat (first | apply Kd.R_alloc | apply Kd.R_drewN | apply Kd.R_drew)); exact HO_270001.out)) k_ hk, Kd.fresh' (Kd.R_lt (by (with_reducible repeat (first | apply Kd.R_alloc | apply Kd.R_drewN | apply Kd.R_drew)); exact HO_276001.out)) k_ hk, Kd.fresh' (Kd.R_lt (by (with_reducible repeat (first | apply Kd.R_alloc | apply Kd.R_drewN | apply Kd.R_drew)); exact HO_277001.out)) k_ hk, Kd.freshB (g := gb263) (o := .cells #[.int .i64 a2_0, .int .i64 a2_1, .int .i64 a2_2] 41 (0, 0)) (by (with_reducible repeat (first | refine blk_drewN ?_ _ | refine blk_drew ?_ | refine blk_alloc ?_ _)); exact BK263.out) k_ hk⟩))
                          (case aO => exact ((Kd.R_nil _ _ _ _ (fun k_ => some k_ ≠ (.slice Ao17 t266.length co17 : Value).ownBlock ∧ some k_ ≠ (u276001 : Value).ownBlock ∧ some k_ ≠ (u277001 : Value).ownBlock ∧ k_ ≠ gb263))))
                          (case aS => exact (below_size (by repeat (first | (with_reducible first | exact HB.out | apply below_alloc | apply pw_below_drewN | apply below_drew1 | refine below_set ?_ GE262.out | refine below_set ?_ GE263.out | refine below_set ?_ GE269.out | refine below_set ?_ GE275.out | refine below_set ?_ GE276.out | refine below_set ?_ GE313.out) | exact HB.out))))
                          (case aL => have := LMc121.out; omega)
                          intro v301 w142 ho hb hg hat
                          rw [← Ny300.out] at ho
                          have n0_ := Aside0.mk (Kd.R_after (Kd.R_apart_nil (by (with_reducible repeat (first | apply Kd.R_alloc | apply Kd.R_drewN | apply Kd.R_drew)); exact HO_270001.out)) hg hat)
                          have n1_ := Aside0.mk (Kd.R_after (Kd.R_apart_nil (by (with_reducible repeat (first | apply Kd.R_alloc | apply Kd.R_drewN | apply Kd.R_drew)); exact HO_276001.out)) hg hat)
                          have n2_ := Aside0.mk (Kd.R_after (Kd.R_apart_nil (by (with_reducible repeat (first | apply Kd.R_alloc | apply Kd.R_drewN | apply Kd.R_drew)); exact HO_277001.out)) hg hat)
                          have n3_ := Aside0.mk (blk_grown (g := gb262) (o := .cells #[.int .i64 a0_0, .slice A0_1 l0_1.length c0_1] 24 (0, 0)) (by (with_reducible repeat (first | refine blk_drewN ?_ _ | refine blk_drew ?_ | refine blk_alloc ?_ _)); exact BK262.out) hg (by simp [Value.ownBlock]))
                          have n4_ := Aside0.mk (blk_grown (g := gb263) (o := .cells #[.int .i64 a2_0, .int .i64 a2_1, .int .i64 a2_2] 41 (0, 0)) (by (with_reducible repeat (first | refine blk_drewN ?_ _ | refine blk_drew ?_ | refine blk_alloc ?_ _)); exact BK263.out) hg (by simp [Value.ownBlock]))
                          have n5_ := Aside0.mk (blk_grown (g := gb269) (o := .cells #[.int .i64 t265, .slice Ao17 t266.length co17] 24 (0, 0)) (by (with_reducible repeat (first | refine blk_drewN ?_ _ | refine blk_drew ?_ | refine blk_alloc ?_ _)); exact BK269.out) hg (by simp [Value.ownBlock]))
                          have n6_ := Aside0.mk (blk_grown (g := gb275) (o := .cells #[.int .i64 t265, u276001] 24 (0, 0)) (by (with_reducible repeat (first | refine blk_drewN ?_ _ | refine blk_drew ?_ | refine blk_alloc ?_ _)); exact BK275.out) hg (by simp [Value.ownBlock]))
                          have n7_ := Aside0.mk (blk_grown (g := gb276) (o := .cells #[.int .i64 t265, u277001] 24 (0, 0)) (by (with_reducible repeat (first | refine blk_drewN ?_ _ | refine blk_drew ?_ | refine blk_alloc ?_ _)); exact BK276.out) hg (by simp [Value.ownBlock]))
                          have n8_ := Aside0.mk (blk_grown (g := gb313) (o := .cells #[.int .i64 0, .slice none 0 0] 24 (0, 0)) (by (with_reducible repeat (first | refine blk_drewN ?_ _ | refine blk_drew ?_ | refine blk_alloc ?_ _)); exact BK313.out) hg (by simp [Value.ownBlock]))
                          have n9_ := Aside0.mk (hb)
                          have n10_ := Aside0.mk (ho)
                          clear HO_270001
                          clear HO_276001
                          clear HO_277001
                          clear BK262
                          clear BK263
                          clear BK269
                          clear BK275
                          clear BK276
                          clear BK313
                          clear HB
                          have HO_270001 := n0_
                          have HO_276001 := n1_
                          have HO_277001 := n2_
                          have BK262 := n3_
                          have BK263 := n4_
                          have BK269 := n5_
                          have BK275 := n6_
                          have BK276 := n7_
                          have BK313 := n8_
                          have HB := n9_
                          have HO302 := n10_
                          clear n0_ n1_ n2_ n3_ n4_ n5_ n6_ n7_ n8_ n9_ n10_
                          clear ho hb hg hat
                          refine hK.out _ _ ⟨(blk_cell BK269.out 0).trans rfl, (blk_cell BK269.out 1).trans rfl, (blk_cell BK263.out 0).trans rfl, (blk_cell BK263.out 1).trans rfl, (blk_cell BK263.out 2).trans rfl⟩ (fun hHeld => ?_)
                          clear hK K
                          refine norm_ (a' := ?_) ?_ ?_
                          rotate_left
                          · show Act.put _ (some 88) _ = _
                            simp only [Act.put, List.setIfInBounds_toArray, List.set_cons_zero, List.set_cons_succ, i64_w, i32_w]
                            rfl
                          exact norm_ (by first | (simp only [putAll, Act.put, List.setIfInBounds_toArray, List.set_cons_zero, List.set_cons_succ]; done) | (simp only [putAll, Act.put, List.setIfInBounds_toArray, List.set_cons_zero, List.set_cons_succ]; rfl)) (hJ5_11 (v301, gb313) _ ⟨hHeld, (by (with_reducible repeat (first | apply Kd.R_alloc | apply Kd.R_drewN | apply Kd.R_drew)); exact HO302.out), (by (with_reducible repeat (first | apply Kd.R_alloc | apply Kd.R_drewN | apply Kd.R_drew)); exact Kd.R_mono HO_270001.out (fun _ hk => ⟨hk.2, ⟨hk.1.1, ⟨hk.1.2.1, hk.1.2.2⟩⟩⟩)), (by (with_reducible repeat (first | apply Kd.R_alloc | apply Kd.R_drewN | apply Kd.R_drew)); exact Kd.R_mono HO_276001.out (fun _ hk => ⟨hk.2, ⟨hk.1.1, ⟨hk.1.2.1, hk.1.2.2⟩⟩⟩)), (by (with_reducible repeat (first | apply Kd.R_alloc | apply Kd.R_drewN | apply Kd.R_drew)); exact Kd.R_mono HO_277001.out (fun _ hk => ⟨hk.2, ⟨hk.1.1, ⟨hk.1.2.1, hk.1.2.2⟩⟩⟩)), (by (with_reducible repeat (first | refine blk_drewN ?_ _ | refine blk_drew ?_ | refine blk_alloc ?_ _)); exact BK262.out), (by (with_reducible repeat (first | refine blk_drewN ?_ _ | refine blk_drew ?_ | refine blk_alloc ?_ _)); exact BK263.out), (by (with_reducible repeat (first | refine blk_drewN ?_ _ | refine blk_drew ?_ | refine blk_alloc ?_ _)); exact BK269.out), (by (with_reducible repeat (first | refine blk_drewN ?_ _ | refine blk_drew ?_ | refine blk_alloc ?_ _)); exact BK275.out), (by (with_reducible repeat (first | refine blk_drewN ?_ _ | refine blk_drew ?_ | refine blk_alloc ?_ _)); exact BK276.out), (by (with_reducible repeat (first | refine blk_drewN ?_ _ | refine blk_drew ?_ | refine blk_alloc ?_ _)); exact BK313.out), GW313.out, GE313.out, NB262_313.out, NB313_262.out, NB263_313.out, NB313_263.out, NB269_313.out, NB313_269.out, NB275_313.out, NB313_275.out, NB276_313.out, NB313_276.out, (by repeat (first | (with_reducible first | exact HB.out | apply below_alloc | apply pw_below_drewN | apply below_drew1 | refine below_set ?_ GE262.out | refine below_set ?_ GE263.out | refine below_set ?_ GE269.out | refine below_set ?_ GE275.out | refine below_set ?_ GE276.out | refine below_set ?_ GE313.out) | exact HB.out))⟩)
                        · skip
                          refine Kd.R_lit_step k41 _ 41 ?hg (N := 90) ?hd (xs := ([(⟨a2_0, a2_1, a2_2⟩ : S41)] : List (S41))) (inner := [.int .i64 a2_0, .int .i64 a2_1, .int .i64 a2_2]) (ok := fun _ => True) (okp := fun _ => True) ?hr ?hp (fun _ hk => hk) trivial (Below.refl _ _) (Nat.le_refl _) (by simp) ?_; (case hd => rfl); (case hg => rfl); (case hr => first | (go_simp; done) | (go_simp; rfl)); (case hp => exact (Reps.c3 (show Kd.M k41 _ _ _ (⟨a2_0, a2_1, a2_2⟩ : S41) [.int .i64 a2_0, .int .i64 a2_1, .int .i64 a2_2] from (k41_mkM _ _ _ (⟨a2_0, a2_1, a2_2⟩ : S41) )) (Reps.none _ _)))
                          intro v304 w142 ho143 hb hg_ hnew_
                          clear hg_ hnew_
                          (first | rw [← Ny303.out] at ho143 | (simp only [Int.reduceToNat] at ho143; rw [← Ny303.out] at ho143))
                          have n0_ := Aside0.mk (Kd.R_elder' (by (with_reducible repeat (first | apply Kd.R_alloc | apply Kd.R_drewN | apply Kd.R_drew)); exact HO_270001.out) (Kd.R_base ho143) hb)
                          have n1_ := Aside0.mk (Kd.R_elder' (by (with_reducible repeat (first | apply Kd.R_alloc | apply Kd.R_drewN | apply Kd.R_drew)); exact HO_276001.out) (Kd.R_base ho143) hb)
                          have n2_ := Aside0.mk (Kd.R_elder' (by (with_reducible repeat (first | apply Kd.R_alloc | apply Kd.R_drewN | apply Kd.R_drew)); exact HO_277001.out) (Kd.R_base ho143) hb)
                          have n3_ := Aside0.mk (Kd.R_lower (Kd.R_newB (Kd.R_new' (Kd.R_new' (Kd.R_new' ho143 (Kd.R_lt (by (with_reducible repeat (first | apply Kd.R_alloc | apply Kd.R_drewN | apply Kd.R_drew)); exact HO_270001.out))) (Kd.R_lt (by (with_reducible repeat (first | apply Kd.R_alloc | apply Kd.R_drewN | apply Kd.R_drew)); exact HO_276001.out))) (Kd.R_lt (by (with_reducible repeat (first | apply Kd.R_alloc | apply Kd.R_drewN | apply Kd.R_drew)); exact HO_277001.out))) (g := gb263) (o := .cells #[.int .i64 a2_0, .int .i64 a2_1, .int .i64 a2_2] 41 (0, 0)) (by (with_reducible repeat (first | refine blk_drewN ?_ _ | refine blk_drew ?_ | refine blk_alloc ?_ _)); exact BK263.out)) (below_size (by repeat (first | (with_reducible first | exact HB.out | apply below_alloc | apply pw_below_drewN | apply below_drew1 | refine below_set ?_ GE262.out | refine below_set ?_ GE263.out | refine below_set ?_ GE269.out | refine below_set ?_ GE275.out | refine below_set ?_ GE276.out | refine below_set ?_ GE313.out) | exact HB.out))))
                          have n4_ := Aside0.mk (blk_below (g := gb262) (o := .cells #[.int .i64 a0_0, .slice A0_1 l0_1.length c0_1] 24 (0, 0)) (by (with_reducible repeat (first | refine blk_drewN ?_ _ | refine blk_drew ?_ | refine blk_alloc ?_ _)); exact BK262.out) hb)
                          have n5_ := Aside0.mk (blk_below (g := gb263) (o := .cells #[.int .i64 a2_0, .int .i64 a2_1, .int .i64 a2_2] 41 (0, 0)) (by (with_reducible repeat (first | refine blk_drewN ?_ _ | refine blk_drew ?_ | refine blk_alloc ?_ _)); exact BK263.out) hb)
                          have n6_ := Aside0.mk (blk_below (g := gb269) (o := .cells #[.int .i64 t265, .slice Ao17 t266.length co17] 24 (0, 0)) (by (with_reducible repeat (first | refine blk_drewN ?_ _ | refine blk_drew ?_ | refine blk_alloc ?_ _)); exact BK269.out) hb)
                          have n7_ := Aside0.mk (blk_below (g := gb275) (o := .cells #[.int .i64 t265, u276001] 24 (0, 0)) (by (with_reducible repeat (first | refine blk_drewN ?_ _ | refine blk_drew ?_ | refine blk_alloc ?_ _)); exact BK275.out) hb)
                          have n8_ := Aside0.mk (blk_below (g := gb276) (o := .cells #[.int .i64 t265, u277001] 24 (0, 0)) (by (with_reducible repeat (first | refine blk_drewN ?_ _ | refine blk_drew ?_ | refine blk_alloc ?_ _)); exact BK276.out) hb)
                          have n9_ := Aside0.mk (blk_below (g := gb313) (o := .cells #[.int .i64 0, .slice none 0 0] 24 (0, 0)) (by (with_reducible repeat (first | refine blk_drewN ?_ _ | refine blk_drew ?_ | refine blk_alloc ?_ _)); exact BK313.out) hb)
                          have n10_ := Aside0.mk (below_step (by repeat (first | (with_reducible first | exact HB.out | apply below_alloc | apply pw_below_drewN | apply below_drew1 | refine below_set ?_ GE262.out | refine below_set ?_ GE263.out | refine below_set ?_ GE269.out | refine below_set ?_ GE275.out | refine below_set ?_ GE276.out | refine below_set ?_ GE313.out) | exact HB.out)) hb)
                          clear HO_270001
                          clear HO_276001
                          clear HO_277001
                          clear BK262
                          clear BK263
                          clear BK269
                          clear BK275
                          clear BK276
                          clear BK313
                          clear HB
                          have HO_270001 := n0_
                          have HO_276001 := n1_
                          have HO_277001 := n2_
                          have HO305 := n3_
                          have BK262 := n4_
                          have BK263 := n5_
                          have BK269 := n6_
                          have BK275 := n7_
                          have BK276 := n8_
                          have BK313 := n9_
                          have HB := n10_
                          clear n0_ n1_ n2_ n3_ n4_ n5_ n6_ n7_ n8_ n9_ n10_
                          clear hb ho143
                          refine hK.out _ _ ⟨(blk_cell BK269.out 0).trans rfl, (blk_cell BK269.out 1).trans rfl, (blk_cell BK263.out 0).trans rfl, (blk_cell BK263.out 1).trans rfl, (blk_cell BK263.out 2).trans rfl⟩ (fun hHeld => ?_)
                          clear hK K
                          refine norm_ (a' := ?_) ?_ ?_
                          rotate_left
                          · show Act.put _ (some 90) _ = _
                            simp only [Act.put, List.setIfInBounds_toArray, List.set_cons_zero, List.set_cons_succ, i64_w, i32_w]
                            rfl
                          exact norm_ (by first | (simp only [putAll, Act.put, List.setIfInBounds_toArray, List.set_cons_zero, List.set_cons_succ]; done) | (simp only [putAll, Act.put, List.setIfInBounds_toArray, List.set_cons_zero, List.set_cons_succ]; rfl)) (hJ7_11 (v304, gb313) _ ⟨hHeld, (by (with_reducible repeat (first | apply Kd.R_alloc | apply Kd.R_drewN | apply Kd.R_drew)); exact Kd.R_mono HO305.out (fun _ hk => ⟨hk.1.1.1.2, ⟨hk.1.1.2, ⟨hk.1.2, hk.2⟩⟩⟩)), (by (with_reducible repeat (first | apply Kd.R_alloc | apply Kd.R_drewN | apply Kd.R_drew)); exact Kd.R_mono HO_270001.out (fun _ hk => ⟨hk.2, ⟨hk.1.1, ⟨hk.1.2.1, hk.1.2.2⟩⟩⟩)), (by (with_reducible repeat (first | apply Kd.R_alloc | apply Kd.R_drewN | apply Kd.R_drew)); exact Kd.R_mono HO_276001.out (fun _ hk => ⟨hk.2, ⟨hk.1.1, ⟨hk.1.2.1, hk.1.2.2⟩⟩⟩)), (by (with_reducible repeat (first | apply Kd.R_alloc | apply Kd.R_drewN | apply Kd.R_drew)); exact Kd.R_mono HO_277001.out (fun _ hk => ⟨hk.2, ⟨hk.1.1, ⟨hk.1.2.1, hk.1.2.2⟩⟩⟩)), (by (with_reducible repeat (first | refine blk_drewN ?_ _ | refine blk_drew ?_ | refine blk_alloc ?_ _)); exact BK262.out), (by (with_reducible repeat (first | refine blk_drewN ?_ _ | refine blk_drew ?_ | refine blk_alloc ?_ _)); exact BK263.out), (by (with_reducible repeat (first | refine blk_drewN ?_ _ | refine blk_drew ?_ | refine blk_alloc ?_ _)); exact BK269.out), (by (with_reducible repeat (first | refine blk_drewN ?_ _ | refine blk_drew ?_ | refine blk_alloc ?_ _)); exact BK275.out), (by (with_reducible repeat (first | refine blk_drewN ?_ _ | refine blk_drew ?_ | refine blk_alloc ?_ _)); exact BK276.out), (by (with_reducible repeat (first | refine blk_drewN ?_ _ | refine blk_drew ?_ | refine blk_alloc ?_ _)); exact BK313.out), GW313.out, GE313.out, NB262_313.out, NB313_262.out, NB263_313.out, NB313_263.out, NB269_313.out, NB313_269.out, NB275_313.out, NB313_275.out, NB276_313.out, NB313_276.out, (by repeat (first | (with_reducible first | exact HB.out | apply below_alloc | apply pw_below_drewN | apply below_drew1 | refine below_set ?_ GE262.out | refine below_set ?_ GE263.out | refine below_set ?_ GE269.out | refine below_set ?_ GE275.out | refine below_set ?_ GE276.out | refine below_set ?_ GE313.out) | exact HB.out))⟩)
                    · skip
                      rintro v304 w142 ⟨hS_, h0_, h1_, h2_, h3_, h4_, h5_, h6_, h7_, h8_, h9_⟩
                      have n0_ : Aside0 (Kd.R k41 41 w142 w.heap.size (fun k_ => some k_ ≠ (.slice Ao17 t266.length co17 : Value).ownBlock ∧ some k_ ≠ (u276001 : Value).ownBlock ∧ some k_ ≠ (u277001 : Value).ownBlock ∧ k_ ≠ gb263) v304 y303) := ⟨h0_⟩
                      have n1_ : Aside0 (Kd.R k41 41 w142 w.heap.size (fun k_ => some k_ ≠ (v304 : Value).ownBlock ∧ some k_ ≠ (u276001 : Value).ownBlock ∧ some k_ ≠ (u277001 : Value).ownBlock ∧ k_ ≠ gb263) (.slice Ao17 t266.length co17) t266) := ⟨h1_⟩
                      have n2_ : Aside0 (Kd.R k41 41 w142 w.heap.size (fun k_ => some k_ ≠ (v304 : Value).ownBlock ∧ some k_ ≠ (.slice Ao17 t266.length co17 : Value).ownBlock ∧ some k_ ≠ (u277001 : Value).ownBlock ∧ k_ ≠ gb263) u276001 x276001_1) := ⟨h2_⟩
                      have n3_ : Aside0 (Kd.R k41 41 w142 w.heap.size (fun k_ => some k_ ≠ (v304 : Value).ownBlock ∧ some k_ ≠ (.slice Ao17 t266.length co17 : Value).ownBlock ∧ some k_ ≠ (u276001 : Value).ownBlock ∧ k_ ≠ gb263) u277001 x277001_1) := ⟨h3_⟩
                      have n4_ : Aside0 (w142.heap[gb262]? = some (.cells #[.int .i64 a0_0, .slice A0_1 l0_1.length c0_1] 24 (0, 0))) := ⟨h4_⟩
                      have n5_ : Aside0 (w142.heap[gb263]? = some (.cells #[.int .i64 a2_0, .int .i64 a2_1, .int .i64 a2_2] 41 (0, 0))) := ⟨h5_⟩
                      have n6_ : Aside0 (w142.heap[gb269]? = some (.cells #[.int .i64 t265, .slice Ao17 t266.length co17] 24 (0, 0))) := ⟨h6_⟩
                      have n7_ : Aside0 (w142.heap[gb275]? = some (.cells #[.int .i64 t265, u276001] 24 (0, 0))) := ⟨h7_⟩
                      have n8_ : Aside0 (w142.heap[gb276]? = some (.cells #[.int .i64 t265, u277001] 24 (0, 0))) := ⟨h8_⟩
                      have n9_ : Aside0 (Below w.heap.size w w142) := ⟨h9_⟩
                      clear HO_270001
                      clear HO_276001
                      clear HO_277001
                      clear BK262
                      clear BK263
                      clear BK269
                      clear BK275
                      clear BK276
                      clear HB
                      clear h0_ h1_ h2_ h3_ h4_ h5_ h6_ h7_ h8_ h9_
                      have HO305 := n0_
                      have HO_270001 := n1_
                      have HO_276001 := n2_
                      have HO_277001 := n3_
                      have BK262 := n4_
                      have BK263 := n5_
                      have BK269 := n6_
                      have BK275 := n7_
                      have BK276 := n8_
                      have HB := n9_
                      clear n0_ n1_ n2_ n3_ n4_ n5_ n6_ n7_ n8_ n9_
                      have hHeld : w142.cell? ⟨gb269, 0, none⟩ = some (.int .i64 t265) ∧ w142.cell? ⟨gb269, 1, none⟩ = some (.slice Ao17 t266.length co17) ∧ w142.cell? ⟨gb263, 0, none⟩ = some (.int .i64 a2_0) ∧ w142.cell? ⟨gb263, 1, none⟩ = some (.int .i64 a2_1) ∧ w142.cell? ⟨gb263, 2, none⟩ = some (.int .i64 a2_2) := hS_
                      refine norm_ (a' := ?_) ?_ ?_
                      rotate_left
                      · simp only [putAll, Act.put, List.setIfInBounds_toArray, List.set_cons_zero, List.set_cons_succ]
                        rfl
                      refine two_ (i := 5) (j := 11) (Ni := some 88) (Nj := some 17) #[true, true, true, true, true, true, true, true, false, false, false, false, false] #[true, true, true, true, true, false, true, true, false, false, false, true, false] rfl rfl rfl rfl (two_of HT_.out (by kernel_rfl)) (by decide) (by decide) (fun K hK => ?_) (fun K hK => ?_)
                      · skip
                        refine Kd.R_append_rows_step k41 (w0 := w) w.heap.size (by rfl) (.const (.slice none 0 0)) (.tmp 87) 22 41 (.agg #[(.int .i64 0), (.int .i64 0), (.int .i64 0)]) 24 rfl Try.underlying22 info41 rfl (by decide) (by omega) (.slice none 0 0) ([] : List (S41)) t266 _ _ _ (fun k_ => some k_ ≠ (.slice Ao17 t266.length co17 : Value).ownBlock ∧ some k_ ≠ (u276001 : Value).ownBlock ∧ some k_ ≠ (u277001 : Value).ownBlock ∧ some k_ ≠ (v304 : Value).ownBlock ∧ k_ ≠ gb263) (fun _ => False) rfl rfl ?aO ?aR (fun _ _ h => h) (fun _ h => h.elim) ?aF ?aB ?aS ?aL ?_
                        (case aR => repeat (first | exact (Kd.R_reads' HO_270001.out).2.2 | (with_reducible refine Kd.C_alloc ?_ _) | (with_reducible refine Kd.C_drewN ?_ _) | (with_reducible refine Kd.C_drew ?_)))
                        (case aB => exact (by repeat (first | (with_reducible first | exact HB.out | apply below_alloc | apply pw_below_drewN | apply below_drew1 | refine below_set ?_ GE262.out | refine below_set ?_ GE263.out | refine below_set ?_ GE269.out | refine below_set ?_ GE275.out | refine below_set ?_ GE276.out) | exact HB.out)))
                        (case aF => exact (fun k_ hk => ⟨Kd.fresh' (Kd.R_lt (by (with_reducible repeat (first | apply Kd.R_alloc | apply Kd.R_drewN | apply Kd.R_drew)); exact HO_270001.out)) k_ hk, Kd.fresh' (Kd.R_lt (by (with_reducible repeat (first | apply Kd.R_alloc | apply Kd.R_drewN | apply Kd.R_drew)); exact HO_276001.out)) k_ hk, Kd.fresh' (Kd.R_lt (by (with_reducible repeat (first | apply Kd.R_alloc | apply Kd.R_drewN | apply Kd.R_drew)); exact HO_277001.out)) k_ hk, Kd.fresh' (Kd.R_lt (by (with_reducible repeat (first | apply Kd.R_alloc | apply Kd.R_drewN | apply Kd.R_drew)); exact HO305.out)) k_ hk, Kd.freshB (g := gb263) (o := .cells #[.int .i64 a2_0, .int .i64 a2_1, .int .i64 a2_2] 41 (0, 0)) (by (with_reducible repeat (first | refine blk_drewN ?_ _ | refine blk_drew ?_ | refine blk_alloc ?_ _)); exact BK263.out) k_ hk⟩))
                        (case aO => exact ((Kd.R_nil _ _ _ _ (fun k_ => some k_ ≠ (.slice Ao17 t266.length co17 : Value).ownBlock ∧ some k_ ≠ (u276001 : Value).ownBlock ∧ some k_ ≠ (u277001 : Value).ownBlock ∧ some k_ ≠ (v304 : Value).ownBlock ∧ k_ ≠ gb263))))
                        (case aS => exact (below_size (by repeat (first | (with_reducible first | exact HB.out | apply below_alloc | apply pw_below_drewN | apply below_drew1 | refine below_set ?_ GE262.out | refine below_set ?_ GE263.out | refine below_set ?_ GE269.out | refine below_set ?_ GE275.out | refine below_set ?_ GE276.out) | exact HB.out))))
                        (case aL => have := LMc121.out; omega)
                        intro v301 w143 ho hb hg hat
                        rw [← Ny300.out] at ho
                        have n0_ := Aside0.mk (Kd.R_after (Kd.R_apart_nil (by (with_reducible repeat (first | apply Kd.R_alloc | apply Kd.R_drewN | apply Kd.R_drew)); exact HO_270001.out)) hg hat)
                        have n1_ := Aside0.mk (Kd.R_after (Kd.R_apart_nil (by (with_reducible repeat (first | apply Kd.R_alloc | apply Kd.R_drewN | apply Kd.R_drew)); exact HO_276001.out)) hg hat)
                        have n2_ := Aside0.mk (Kd.R_after (Kd.R_apart_nil (by (with_reducible repeat (first | apply Kd.R_alloc | apply Kd.R_drewN | apply Kd.R_drew)); exact HO_277001.out)) hg hat)
                        have n3_ := Aside0.mk (blk_grown (g := gb262) (o := .cells #[.int .i64 a0_0, .slice A0_1 l0_1.length c0_1] 24 (0, 0)) (by (with_reducible repeat (first | refine blk_drewN ?_ _ | refine blk_drew ?_ | refine blk_alloc ?_ _)); exact BK262.out) hg (by simp [Value.ownBlock]))
                        have n4_ := Aside0.mk (blk_grown (g := gb263) (o := .cells #[.int .i64 a2_0, .int .i64 a2_1, .int .i64 a2_2] 41 (0, 0)) (by (with_reducible repeat (first | refine blk_drewN ?_ _ | refine blk_drew ?_ | refine blk_alloc ?_ _)); exact BK263.out) hg (by simp [Value.ownBlock]))
                        have n5_ := Aside0.mk (blk_grown (g := gb269) (o := .cells #[.int .i64 t265, .slice Ao17 t266.length co17] 24 (0, 0)) (by (with_reducible repeat (first | refine blk_drewN ?_ _ | refine blk_drew ?_ | refine blk_alloc ?_ _)); exact BK269.out) hg (by simp [Value.ownBlock]))
                        have n6_ := Aside0.mk (blk_grown (g := gb275) (o := .cells #[.int .i64 t265, u276001] 24 (0, 0)) (by (with_reducible repeat (first | refine blk_drewN ?_ _ | refine blk_drew ?_ | refine blk_alloc ?_ _)); exact BK275.out) hg (by simp [Value.ownBlock]))
                        have n7_ := Aside0.mk (blk_grown (g := gb276) (o := .cells #[.int .i64 t265, u277001] 24 (0, 0)) (by (with_reducible repeat (first | refine blk_drewN ?_ _ | refine blk_drew ?_ | refine blk_alloc ?_ _)); exact BK276.out) hg (by simp [Value.ownBlock]))
                        have n8_ := Aside0.mk (Kd.R_after (Kd.R_apart_nil (by (with_reducible repeat (first | apply Kd.R_alloc | apply Kd.R_drewN | apply Kd.R_drew)); exact HO305.out)) hg hat)
                        have n9_ := Aside0.mk (hb)
                        have n10_ := Aside0.mk (ho)
                        clear HO_270001
                        clear HO_276001
                        clear HO_277001
                        clear BK262
                        clear BK263
                        clear BK269
                        clear BK275
                        clear BK276
                        clear HO305
                        clear HB
                        have HO_270001 := n0_
                        have HO_276001 := n1_
                        have HO_277001 := n2_
                        have BK262 := n3_
                        have BK263 := n4_
                        have BK269 := n5_
                        have BK275 := n6_
                        have BK276 := n7_
                        have HO305 := n8_
                        have HB := n9_
                        have HO302 := n10_
                        clear n0_ n1_ n2_ n3_ n4_ n5_ n6_ n7_ n8_ n9_ n10_
                        clear ho hb hg hat
                        refine hK.out _ _ ⟨(blk_cell BK269.out 0).trans rfl, (blk_cell BK269.out 1).trans rfl, (blk_cell BK263.out 0).trans rfl, (blk_cell BK263.out 1).trans rfl, (blk_cell BK263.out 2).trans rfl⟩ (fun hHeld => ?_)
                        clear hK K
                        refine norm_ (a' := ?_) ?_ ?_
                        rotate_left
                        · show Act.put _ (some 88) _ = _
                          simp only [Act.put, List.setIfInBounds_toArray, List.set_cons_zero, List.set_cons_succ, i64_w, i32_w]
                          rfl
                        exact norm_ (by first | (simp only [putAll, Act.put, List.setIfInBounds_toArray, List.set_cons_zero, List.set_cons_succ]; done) | (simp only [putAll, Act.put, List.setIfInBounds_toArray, List.set_cons_zero, List.set_cons_succ]; rfl)) (hJ5_7 (v301, v304) _ ⟨hHeld, (by (with_reducible repeat (first | apply Kd.R_alloc | apply Kd.R_drewN | apply Kd.R_drew)); exact Kd.R_mono HO302.out (fun _ hk => ⟨hk.2.2.2.1, ⟨hk.1, ⟨hk.2.1, ⟨hk.2.2.1, hk.2.2.2.2⟩⟩⟩⟩)), (by (with_reducible repeat (first | apply Kd.R_alloc | apply Kd.R_drewN | apply Kd.R_drew)); exact Kd.R_mono HO305.out (fun _ hk => ⟨hk.2, ⟨hk.1.1, ⟨hk.1.2.1, ⟨hk.1.2.2.1, hk.1.2.2.2⟩⟩⟩⟩)), (by (with_reducible repeat (first | apply Kd.R_alloc | apply Kd.R_drewN | apply Kd.R_drew)); exact Kd.R_mono HO_270001.out (fun _ hk => ⟨hk.2, ⟨hk.1.1, ⟨hk.1.2.1, ⟨hk.1.2.2.1, hk.1.2.2.2⟩⟩⟩⟩)), (by (with_reducible repeat (first | apply Kd.R_alloc | apply Kd.R_drewN | apply Kd.R_drew)); exact Kd.R_mono HO_276001.out (fun _ hk => ⟨hk.2, ⟨hk.1.1, ⟨hk.1.2.1, ⟨hk.1.2.2.1, hk.1.2.2.2⟩⟩⟩⟩)), (by (with_reducible repeat (first | apply Kd.R_alloc | apply Kd.R_drewN | apply Kd.R_drew)); exact Kd.R_mono HO_277001.out (fun _ hk => ⟨hk.2, ⟨hk.1.1, ⟨hk.1.2.1, ⟨hk.1.2.2.1, hk.1.2.2.2⟩⟩⟩⟩)), (by (with_reducible repeat (first | refine blk_drewN ?_ _ | refine blk_drew ?_ | refine blk_alloc ?_ _)); exact BK262.out), (by (with_reducible repeat (first | refine blk_drewN ?_ _ | refine blk_drew ?_ | refine blk_alloc ?_ _)); exact BK263.out), (by (with_reducible repeat (first | refine blk_drewN ?_ _ | refine blk_drew ?_ | refine blk_alloc ?_ _)); exact BK269.out), (by (with_reducible repeat (first | refine blk_drewN ?_ _ | refine blk_drew ?_ | refine blk_alloc ?_ _)); exact BK275.out), (by (with_reducible repeat (first | refine blk_drewN ?_ _ | refine blk_drew ?_ | refine blk_alloc ?_ _)); exact BK276.out), (by repeat (first | (with_reducible first | exact HB.out | apply below_alloc | apply pw_below_drewN | apply below_drew1 | refine below_set ?_ GE262.out | refine below_set ?_ GE263.out | refine below_set ?_ GE269.out | refine below_set ?_ GE275.out | refine below_set ?_ GE276.out) | exact HB.out))⟩)
                      · skip
                        refine box_step ?hg (N := 17) ?hd (cs := #[.int .i64 0, .slice none 0 0]) (t := 24) ?hr ?_; (case hd => rfl); (case hg => rfl); (case hr => first | (go_simp; done) | (go_simp; rfl))
                        intro gb313 hg w143 hbox hb
                        have n0_ := Aside0.mk (Kd.R_below (by (with_reducible repeat (first | apply Kd.R_alloc | apply Kd.R_drewN | apply Kd.R_drew)); exact HO_270001.out) hb)
                        have n1_ := Aside0.mk (Kd.R_below (by (with_reducible repeat (first | apply Kd.R_alloc | apply Kd.R_drewN | apply Kd.R_drew)); exact HO_276001.out) hb)
                        have n2_ := Aside0.mk (Kd.R_below (by (with_reducible repeat (first | apply Kd.R_alloc | apply Kd.R_drewN | apply Kd.R_drew)); exact HO_277001.out) hb)
                        have n3_ := Aside0.mk (Kd.R_below (by (with_reducible repeat (first | apply Kd.R_alloc | apply Kd.R_drewN | apply Kd.R_drew)); exact HO305.out) hb)
                        have n4_ := Aside0.mk (blk_below (g := gb262) (o := .cells #[.int .i64 a0_0, .slice A0_1 l0_1.length c0_1] 24 (0, 0)) (by (with_reducible repeat (first | refine blk_drewN ?_ _ | refine blk_drew ?_ | refine blk_alloc ?_ _)); exact BK262.out) hb)
                        have n5_ := Aside0.mk (blk_below (g := gb263) (o := .cells #[.int .i64 a2_0, .int .i64 a2_1, .int .i64 a2_2] 41 (0, 0)) (by (with_reducible repeat (first | refine blk_drewN ?_ _ | refine blk_drew ?_ | refine blk_alloc ?_ _)); exact BK263.out) hb)
                        have n6_ := Aside0.mk (blk_below (g := gb269) (o := .cells #[.int .i64 t265, .slice Ao17 t266.length co17] 24 (0, 0)) (by (with_reducible repeat (first | refine blk_drewN ?_ _ | refine blk_drew ?_ | refine blk_alloc ?_ _)); exact BK269.out) hb)
                        have n7_ := Aside0.mk (blk_below (g := gb275) (o := .cells #[.int .i64 t265, u276001] 24 (0, 0)) (by (with_reducible repeat (first | refine blk_drewN ?_ _ | refine blk_drew ?_ | refine blk_alloc ?_ _)); exact BK275.out) hb)
                        have n8_ := Aside0.mk (blk_below (g := gb276) (o := .cells #[.int .i64 t265, u277001] 24 (0, 0)) (by (with_reducible repeat (first | refine blk_drewN ?_ _ | refine blk_drew ?_ | refine blk_alloc ?_ _)); exact BK276.out) hb)
                        have n9_ := Aside0.mk (below_step (by repeat (first | (with_reducible first | exact HB.out | apply below_alloc | apply pw_below_drewN | apply below_drew1 | refine below_set ?_ GE262.out | refine below_set ?_ GE263.out | refine below_set ?_ GE269.out | refine below_set ?_ GE275.out | refine below_set ?_ GE276.out) | exact HB.out)) hb)
                        have n10_ := Aside0.mk (hbox)
                        have n11_ := Aside0.mk ((by rw [hg]; exact (below_size (by repeat (first | (with_reducible first | exact HB.out | apply below_alloc | apply pw_below_drewN | apply below_drew1 | refine below_set ?_ GE262.out | refine below_set ?_ GE263.out | refine below_set ?_ GE269.out | refine below_set ?_ GE275.out | refine below_set ?_ GE276.out) | exact HB.out))) : w.heap.size ≤ gb313))
                        have n12_ := Aside0.mk ((by rw [hg]; exact (below_size (by repeat (first | (with_reducible first | exact HB.out | apply below_alloc | apply pw_below_drewN | apply below_drew1 | refine below_set ?_ GE262.out | refine below_set ?_ GE263.out | refine below_set ?_ GE269.out | refine below_set ?_ GE275.out | refine below_set ?_ GE276.out) | exact HB.out))) : w.heap.size ≤ gb313))
                        have n13_ := Aside0.mk ((by rw [hg]; exact Nat.ne_of_lt (blk_lt (g := gb262) (o := .cells #[.int .i64 a0_0, .slice A0_1 l0_1.length c0_1] 24 (0, 0)) (by (with_reducible repeat (first | refine blk_drewN ?_ _ | refine blk_drew ?_ | refine blk_alloc ?_ _)); exact BK262.out)) : gb262 ≠ gb313))
                        have n14_ := Aside0.mk ((by rw [hg]; exact Nat.ne_of_gt (blk_lt (g := gb262) (o := .cells #[.int .i64 a0_0, .slice A0_1 l0_1.length c0_1] 24 (0, 0)) (by (with_reducible repeat (first | refine blk_drewN ?_ _ | refine blk_drew ?_ | refine blk_alloc ?_ _)); exact BK262.out)) : gb313 ≠ gb262))
                        have n15_ := Aside0.mk ((by rw [hg]; exact Nat.ne_of_lt (blk_lt (g := gb263) (o := .cells #[.int .i64 a2_0, .int .i64 a2_1, .int .i64 a2_2] 41 (0, 0)) (by (with_reducible repeat (first | refine blk_drewN ?_ _ | refine blk_drew ?_ | refine blk_alloc ?_ _)); exact BK263.out)) : gb263 ≠ gb313))
                        have n16_ := Aside0.mk ((by rw [hg]; exact Nat.ne_of_gt (blk_lt (g := gb263) (o := .cells #[.int .i64 a2_0, .int .i64 a2_1, .int .i64 a2_2] 41 (0, 0)) (by (with_reducible repeat (first | refine blk_drewN ?_ _ | refine blk_drew ?_ | refine blk_alloc ?_ _)); exact BK263.out)) : gb313 ≠ gb263))
                        have n17_ := Aside0.mk ((by rw [hg]; exact Nat.ne_of_lt (blk_lt (g := gb269) (o := .cells #[.int .i64 t265, .slice Ao17 t266.length co17] 24 (0, 0)) (by (with_reducible repeat (first | refine blk_drewN ?_ _ | refine blk_drew ?_ | refine blk_alloc ?_ _)); exact BK269.out)) : gb269 ≠ gb313))
                        have n18_ := Aside0.mk ((by rw [hg]; exact Nat.ne_of_gt (blk_lt (g := gb269) (o := .cells #[.int .i64 t265, .slice Ao17 t266.length co17] 24 (0, 0)) (by (with_reducible repeat (first | refine blk_drewN ?_ _ | refine blk_drew ?_ | refine blk_alloc ?_ _)); exact BK269.out)) : gb313 ≠ gb269))
                        have n19_ := Aside0.mk ((by rw [hg]; exact Nat.ne_of_lt (blk_lt (g := gb275) (o := .cells #[.int .i64 t265, u276001] 24 (0, 0)) (by (with_reducible repeat (first | refine blk_drewN ?_ _ | refine blk_drew ?_ | refine blk_alloc ?_ _)); exact BK275.out)) : gb275 ≠ gb313))
                        have n20_ := Aside0.mk ((by rw [hg]; exact Nat.ne_of_gt (blk_lt (g := gb275) (o := .cells #[.int .i64 t265, u276001] 24 (0, 0)) (by (with_reducible repeat (first | refine blk_drewN ?_ _ | refine blk_drew ?_ | refine blk_alloc ?_ _)); exact BK275.out)) : gb313 ≠ gb275))
                        have n21_ := Aside0.mk ((by rw [hg]; exact Nat.ne_of_lt (blk_lt (g := gb276) (o := .cells #[.int .i64 t265, u277001] 24 (0, 0)) (by (with_reducible repeat (first | refine blk_drewN ?_ _ | refine blk_drew ?_ | refine blk_alloc ?_ _)); exact BK276.out)) : gb276 ≠ gb313))
                        have n22_ := Aside0.mk ((by rw [hg]; exact Nat.ne_of_gt (blk_lt (g := gb276) (o := .cells #[.int .i64 t265, u277001] 24 (0, 0)) (by (with_reducible repeat (first | refine blk_drewN ?_ _ | refine blk_drew ?_ | refine blk_alloc ?_ _)); exact BK276.out)) : gb313 ≠ gb276))
                        clear HO_270001
                        clear HO_276001
                        clear HO_277001
                        clear HO305
                        clear BK262
                        clear BK263
                        clear BK269
                        clear BK275
                        clear BK276
                        clear HB
                        have HO_270001 := n0_
                        have HO_276001 := n1_
                        have HO_277001 := n2_
                        have HO305 := n3_
                        have BK262 := n4_
                        have BK263 := n5_
                        have BK269 := n6_
                        have BK275 := n7_
                        have BK276 := n8_
                        have HB := n9_
                        have BK313 := n10_
                        have GW313 := n11_
                        have GE313 := n12_
                        have NB262_313 := n13_
                        have NB313_262 := n14_
                        have NB263_313 := n15_
                        have NB313_263 := n16_
                        have NB269_313 := n17_
                        have NB313_269 := n18_
                        have NB275_313 := n19_
                        have NB313_275 := n20_
                        have NB276_313 := n21_
                        have NB313_276 := n22_
                        clear n0_ n1_ n2_ n3_ n4_ n5_ n6_ n7_ n8_ n9_ n10_ n11_ n12_ n13_ n14_ n15_ n16_ n17_ n18_ n19_ n20_ n21_ n22_
                        clear hb hbox hg
                        refine hK.out _ _ ⟨(blk_cell BK269.out 0).trans rfl, (blk_cell BK269.out 1).trans rfl, (blk_cell BK263.out 0).trans rfl, (blk_cell BK263.out 1).trans rfl, (blk_cell BK263.out 2).trans rfl⟩ (fun hHeld => ?_)
                        clear hK K
                        refine norm_ (a' := ?_) ?_ ?_
                        rotate_left
                        · show Act.put _ (some 17) _ = _
                          simp only [Act.put, List.setIfInBounds_toArray, List.set_cons_zero, List.set_cons_succ, i64_w, i32_w]
                          rfl
                        exact norm_ (by first | (simp only [putAll, Act.put, List.setIfInBounds_toArray, List.set_cons_zero, List.set_cons_succ]; done) | (simp only [putAll, Act.put, List.setIfInBounds_toArray, List.set_cons_zero, List.set_cons_succ]; rfl)) (hJ7_11 (v304, gb313) _ ⟨hHeld, (by (with_reducible repeat (first | apply Kd.R_alloc | apply Kd.R_drewN | apply Kd.R_drew)); exact HO305.out), (by (with_reducible repeat (first | apply Kd.R_alloc | apply Kd.R_drewN | apply Kd.R_drew)); exact HO_270001.out), (by (with_reducible repeat (first | apply Kd.R_alloc | apply Kd.R_drewN | apply Kd.R_drew)); exact HO_276001.out), (by (with_reducible repeat (first | apply Kd.R_alloc | apply Kd.R_drewN | apply Kd.R_drew)); exact HO_277001.out), (by (with_reducible repeat (first | refine blk_drewN ?_ _ | refine blk_drew ?_ | refine blk_alloc ?_ _)); exact BK262.out), (by (with_reducible repeat (first | refine blk_drewN ?_ _ | refine blk_drew ?_ | refine blk_alloc ?_ _)); exact BK263.out), (by (with_reducible repeat (first | refine blk_drewN ?_ _ | refine blk_drew ?_ | refine blk_alloc ?_ _)); exact BK269.out), (by (with_reducible repeat (first | refine blk_drewN ?_ _ | refine blk_drew ?_ | refine blk_alloc ?_ _)); exact BK275.out), (by (with_reducible repeat (first | refine blk_drewN ?_ _ | refine blk_drew ?_ | refine blk_alloc ?_ _)); exact BK276.out), (by (with_reducible repeat (first | refine blk_drewN ?_ _ | refine blk_drew ?_ | refine blk_alloc ?_ _)); exact BK313.out), GW313.out, GE313.out, NB262_313.out, NB313_262.out, NB263_313.out, NB313_263.out, NB269_313.out, NB313_269.out, NB275_313.out, NB313_275.out, NB276_313.out, NB313_276.out, (by repeat (first | (with_reducible first | exact HB.out | apply below_alloc | apply pw_below_drewN | apply below_drew1 | refine below_set ?_ GE262.out | refine below_set ?_ GE263.out | refine below_set ?_ GE269.out | refine below_set ?_ GE275.out | refine below_set ?_ GE276.out | refine below_set ?_ GE313.out) | exact HB.out))⟩)
                  · skip
                    rintro v301 w141 ⟨hS_, h0_, h1_, h2_, h3_, h4_, h5_, h6_, h7_, h8_, h9_⟩
                    have n0_ : Aside0 (Kd.R k41 41 w141 w.heap.size (fun k_ => some k_ ≠ (.slice Ao17 t266.length co17 : Value).ownBlock ∧ some k_ ≠ (u276001 : Value).ownBlock ∧ some k_ ≠ (u277001 : Value).ownBlock ∧ k_ ≠ gb263) v301 y300) := ⟨h0_⟩
                    have n1_ : Aside0 (Kd.R k41 41 w141 w.heap.size (fun k_ => some k_ ≠ (v301 : Value).ownBlock ∧ some k_ ≠ (u276001 : Value).ownBlock ∧ some k_ ≠ (u277001 : Value).ownBlock ∧ k_ ≠ gb263) (.slice Ao17 t266.length co17) t266) := ⟨h1_⟩
                    have n2_ : Aside0 (Kd.R k41 41 w141 w.heap.size (fun k_ => some k_ ≠ (v301 : Value).ownBlock ∧ some k_ ≠ (.slice Ao17 t266.length co17 : Value).ownBlock ∧ some k_ ≠ (u277001 : Value).ownBlock ∧ k_ ≠ gb263) u276001 x276001_1) := ⟨h2_⟩
                    have n3_ : Aside0 (Kd.R k41 41 w141 w.heap.size (fun k_ => some k_ ≠ (v301 : Value).ownBlock ∧ some k_ ≠ (.slice Ao17 t266.length co17 : Value).ownBlock ∧ some k_ ≠ (u276001 : Value).ownBlock ∧ k_ ≠ gb263) u277001 x277001_1) := ⟨h3_⟩
                    have n4_ : Aside0 (w141.heap[gb262]? = some (.cells #[.int .i64 a0_0, .slice A0_1 l0_1.length c0_1] 24 (0, 0))) := ⟨h4_⟩
                    have n5_ : Aside0 (w141.heap[gb263]? = some (.cells #[.int .i64 a2_0, .int .i64 a2_1, .int .i64 a2_2] 41 (0, 0))) := ⟨h5_⟩
                    have n6_ : Aside0 (w141.heap[gb269]? = some (.cells #[.int .i64 t265, .slice Ao17 t266.length co17] 24 (0, 0))) := ⟨h6_⟩
                    have n7_ : Aside0 (w141.heap[gb275]? = some (.cells #[.int .i64 t265, u276001] 24 (0, 0))) := ⟨h7_⟩
                    have n8_ : Aside0 (w141.heap[gb276]? = some (.cells #[.int .i64 t265, u277001] 24 (0, 0))) := ⟨h8_⟩
                    have n9_ : Aside0 (Below w.heap.size w w141) := ⟨h9_⟩
                    clear HO_270001
                    clear HO_276001
                    clear HO_277001
                    clear BK262
                    clear BK263
                    clear BK269
                    clear BK275
                    clear BK276
                    clear HB
                    clear h0_ h1_ h2_ h3_ h4_ h5_ h6_ h7_ h8_ h9_
                    have HO302 := n0_
                    have HO_270001 := n1_
                    have HO_276001 := n2_
                    have HO_277001 := n3_
                    have BK262 := n4_
                    have BK263 := n5_
                    have BK269 := n6_
                    have BK275 := n7_
                    have BK276 := n8_
                    have HB := n9_
                    clear n0_ n1_ n2_ n3_ n4_ n5_ n6_ n7_ n8_ n9_
                    have hHeld : w141.cell? ⟨gb269, 0, none⟩ = some (.int .i64 t265) ∧ w141.cell? ⟨gb269, 1, none⟩ = some (.slice Ao17 t266.length co17) ∧ w141.cell? ⟨gb263, 0, none⟩ = some (.int .i64 a2_0) ∧ w141.cell? ⟨gb263, 1, none⟩ = some (.int .i64 a2_1) ∧ w141.cell? ⟨gb263, 2, none⟩ = some (.int .i64 a2_2) := hS_
                    refine norm_ (a' := ?_) ?_ ?_
                    rotate_left
                    · simp only [putAll, Act.put, List.setIfInBounds_toArray, List.set_cons_zero, List.set_cons_succ]
                      rfl
                    refine two_ (i := 7) (j := 11) (Ni := some 90) (Nj := some 17) #[true, true, true, true, true, true, true, true, false, false, false, false, false] #[true, true, true, true, true, true, true, false, false, false, false, true, false] rfl rfl rfl rfl (two_of HT_.out (by kernel_rfl)) (by decide) (by decide) (fun K hK => ?_) (fun K hK => ?_)
                    · skip
                      refine Kd.R_lit_step k41 _ 41 ?hg (N := 90) ?hd (xs := ([(⟨a2_0, a2_1, a2_2⟩ : S41)] : List (S41))) (inner := [.int .i64 a2_0, .int .i64 a2_1, .int .i64 a2_2]) (ok := fun _ => True) (okp := fun _ => True) ?hr ?hp (fun _ hk => hk) trivial (Below.refl _ _) (Nat.le_refl _) (by simp) ?_; (case hd => rfl); (case hg => rfl); (case hr => first | (go_simp; done) | (go_simp; rfl)); (case hp => exact (Reps.c3 (show Kd.M k41 _ _ _ (⟨a2_0, a2_1, a2_2⟩ : S41) [.int .i64 a2_0, .int .i64 a2_1, .int .i64 a2_2] from (k41_mkM _ _ _ (⟨a2_0, a2_1, a2_2⟩ : S41) )) (Reps.none _ _)))
                      intro v304 w142 ho143 hb hg_ hnew_
                      clear hg_ hnew_
                      (first | rw [← Ny303.out] at ho143 | (simp only [Int.reduceToNat] at ho143; rw [← Ny303.out] at ho143))
                      have n0_ := Aside0.mk (Kd.R_elder' (by (with_reducible repeat (first | apply Kd.R_alloc | apply Kd.R_drewN | apply Kd.R_drew)); exact HO_270001.out) (Kd.R_base ho143) hb)
                      have n1_ := Aside0.mk (Kd.R_elder' (by (with_reducible repeat (first | apply Kd.R_alloc | apply Kd.R_drewN | apply Kd.R_drew)); exact HO_276001.out) (Kd.R_base ho143) hb)
                      have n2_ := Aside0.mk (Kd.R_elder' (by (with_reducible repeat (first | apply Kd.R_alloc | apply Kd.R_drewN | apply Kd.R_drew)); exact HO_277001.out) (Kd.R_base ho143) hb)
                      have n3_ := Aside0.mk (Kd.R_elder' (by (with_reducible repeat (first | apply Kd.R_alloc | apply Kd.R_drewN | apply Kd.R_drew)); exact HO302.out) (Kd.R_base ho143) hb)
                      have n4_ := Aside0.mk (Kd.R_lower (Kd.R_newB (Kd.R_new' (Kd.R_new' (Kd.R_new' (Kd.R_new' ho143 (Kd.R_lt (by (with_reducible repeat (first | apply Kd.R_alloc | apply Kd.R_drewN | apply Kd.R_drew)); exact HO_270001.out))) (Kd.R_lt (by (with_reducible repeat (first | apply Kd.R_alloc | apply Kd.R_drewN | apply Kd.R_drew)); exact HO_276001.out))) (Kd.R_lt (by (with_reducible repeat (first | apply Kd.R_alloc | apply Kd.R_drewN | apply Kd.R_drew)); exact HO_277001.out))) (Kd.R_lt (by (with_reducible repeat (first | apply Kd.R_alloc | apply Kd.R_drewN | apply Kd.R_drew)); exact HO302.out))) (g := gb263) (o := .cells #[.int .i64 a2_0, .int .i64 a2_1, .int .i64 a2_2] 41 (0, 0)) (by (with_reducible repeat (first | refine blk_drewN ?_ _ | refine blk_drew ?_ | refine blk_alloc ?_ _)); exact BK263.out)) (below_size (by repeat (first | (with_reducible first | exact HB.out | apply below_alloc | apply pw_below_drewN | apply below_drew1 | refine below_set ?_ GE262.out | refine below_set ?_ GE263.out | refine below_set ?_ GE269.out | refine below_set ?_ GE275.out | refine below_set ?_ GE276.out) | exact HB.out))))
                      have n5_ := Aside0.mk (blk_below (g := gb262) (o := .cells #[.int .i64 a0_0, .slice A0_1 l0_1.length c0_1] 24 (0, 0)) (by (with_reducible repeat (first | refine blk_drewN ?_ _ | refine blk_drew ?_ | refine blk_alloc ?_ _)); exact BK262.out) hb)
                      have n6_ := Aside0.mk (blk_below (g := gb263) (o := .cells #[.int .i64 a2_0, .int .i64 a2_1, .int .i64 a2_2] 41 (0, 0)) (by (with_reducible repeat (first | refine blk_drewN ?_ _ | refine blk_drew ?_ | refine blk_alloc ?_ _)); exact BK263.out) hb)
                      have n7_ := Aside0.mk (blk_below (g := gb269) (o := .cells #[.int .i64 t265, .slice Ao17 t266.length co17] 24 (0, 0)) (by (with_reducible repeat (first | refine blk_drewN ?_ _ | refine blk_drew ?_ | refine blk_alloc ?_ _)); exact BK269.out) hb)
                      have n8_ := Aside0.mk (blk_below (g := gb275) (o := .cells #[.int .i64 t265, u276001] 24 (0, 0)) (by (with_reducible repeat (first | refine blk_drewN ?_ _ | refine blk_drew ?_ | refine blk_alloc ?_ _)); exact BK275.out) hb)
                      have n9_ := Aside0.mk (blk_below (g := gb276) (o := .cells #[.int .i64 t265, u277001] 24 (0, 0)) (by (with_reducible repeat (first | refine blk_drewN ?_ _ | refine blk_drew ?_ | refine blk_alloc ?_ _)); exact BK276.out) hb)
                      have n10_ := Aside0.mk (below_step (by repeat (first | (with_reducible first | exact HB.out | apply below_alloc | apply pw_below_drewN | apply below_drew1 | refine below_set ?_ GE262.out | refine below_set ?_ GE263.out | refine below_set ?_ GE269.out | refine below_set ?_ GE275.out | refine below_set ?_ GE276.out) | exact HB.out)) hb)
                      clear HO_270001
                      clear HO_276001
                      clear HO_277001
                      clear HO302
                      clear BK262
                      clear BK263
                      clear BK269
                      clear BK275
                      clear BK276
                      clear HB
                      have HO_270001 := n0_
                      have HO_276001 := n1_
                      have HO_277001 := n2_
                      have HO302 := n3_
                      have HO305 := n4_
                      have BK262 := n5_
                      have BK263 := n6_
                      have BK269 := n7_
                      have BK275 := n8_
                      have BK276 := n9_
                      have HB := n10_
                      clear n0_ n1_ n2_ n3_ n4_ n5_ n6_ n7_ n8_ n9_ n10_
                      clear hb ho143
                      refine hK.out _ _ ⟨(blk_cell BK269.out 0).trans rfl, (blk_cell BK269.out 1).trans rfl, (blk_cell BK263.out 0).trans rfl, (blk_cell BK263.out 1).trans rfl, (blk_cell BK263.out 2).trans rfl⟩ (fun hHeld => ?_)
                      clear hK K
                      refine norm_ (a' := ?_) ?_ ?_
                      rotate_left
                      · show Act.put _ (some 90) _ = _
                        simp only [Act.put, List.setIfInBounds_toArray, List.set_cons_zero, List.set_cons_succ, i64_w, i32_w]
                        rfl
                      exact norm_ (by first | (simp only [putAll, Act.put, List.setIfInBounds_toArray, List.set_cons_zero, List.set_cons_succ]; done) | (simp only [putAll, Act.put, List.setIfInBounds_toArray, List.set_cons_zero, List.set_cons_succ]; rfl)) (hJ5_7 (v301, v304) _ ⟨hHeld, (by (with_reducible repeat (first | apply Kd.R_alloc | apply Kd.R_drewN | apply Kd.R_drew)); exact Kd.R_mono HO302.out (fun _ hk => ⟨hk.2, ⟨hk.1.1, ⟨hk.1.2.1, ⟨hk.1.2.2.1, hk.1.2.2.2⟩⟩⟩⟩)), (by (with_reducible repeat (first | apply Kd.R_alloc | apply Kd.R_drewN | apply Kd.R_drew)); exact Kd.R_mono HO305.out (fun _ hk => ⟨hk.1.2, ⟨hk.1.1.1.1.2, ⟨hk.1.1.1.2, ⟨hk.1.1.2, hk.2⟩⟩⟩⟩)), (by (with_reducible repeat (first | apply Kd.R_alloc | apply Kd.R_drewN | apply Kd.R_drew)); exact Kd.R_mono HO_270001.out (fun _ hk => ⟨hk.1.1, ⟨hk.2, ⟨hk.1.2.1, ⟨hk.1.2.2.1, hk.1.2.2.2⟩⟩⟩⟩)), (by (with_reducible repeat (first | apply Kd.R_alloc | apply Kd.R_drewN | apply Kd.R_drew)); exact Kd.R_mono HO_276001.out (fun _ hk => ⟨hk.1.1, ⟨hk.2, ⟨hk.1.2.1, ⟨hk.1.2.2.1, hk.1.2.2.2⟩⟩⟩⟩)), (by (with_reducible repeat (first | apply Kd.R_alloc | apply Kd.R_drewN | apply Kd.R_drew)); exact Kd.R_mono HO_277001.out (fun _ hk => ⟨hk.1.1, ⟨hk.2, ⟨hk.1.2.1, ⟨hk.1.2.2.1, hk.1.2.2.2⟩⟩⟩⟩)), (by (with_reducible repeat (first | refine blk_drewN ?_ _ | refine blk_drew ?_ | refine blk_alloc ?_ _)); exact BK262.out), (by (with_reducible repeat (first | refine blk_drewN ?_ _ | refine blk_drew ?_ | refine blk_alloc ?_ _)); exact BK263.out), (by (with_reducible repeat (first | refine blk_drewN ?_ _ | refine blk_drew ?_ | refine blk_alloc ?_ _)); exact BK269.out), (by (with_reducible repeat (first | refine blk_drewN ?_ _ | refine blk_drew ?_ | refine blk_alloc ?_ _)); exact BK275.out), (by (with_reducible repeat (first | refine blk_drewN ?_ _ | refine blk_drew ?_ | refine blk_alloc ?_ _)); exact BK276.out), (by repeat (first | (with_reducible first | exact HB.out | apply below_alloc | apply pw_below_drewN | apply below_drew1 | refine below_set ?_ GE262.out | refine below_set ?_ GE263.out | refine below_set ?_ GE269.out | refine below_set ?_ GE275.out | refine below_set ?_ GE276.out) | exact HB.out))⟩)
                    · skip
                      refine box_step ?hg (N := 17) ?hd (cs := #[.int .i64 0, .slice none 0 0]) (t := 24) ?hr ?_; (case hd => rfl); (case hg => rfl); (case hr => first | (go_simp; done) | (go_simp; rfl))
                      intro gb313 hg w142 hbox hb
                      have n0_ := Aside0.mk (Kd.R_below (by (with_reducible repeat (first | apply Kd.R_alloc | apply Kd.R_drewN | apply Kd.R_drew)); exact HO_270001.out) hb)
                      have n1_ := Aside0.mk (Kd.R_below (by (with_reducible repeat (first | apply Kd.R_alloc | apply Kd.R_drewN | apply Kd.R_drew)); exact HO_276001.out) hb)
                      have n2_ := Aside0.mk (Kd.R_below (by (with_reducible repeat (first | apply Kd.R_alloc | apply Kd.R_drewN | apply Kd.R_drew)); exact HO_277001.out) hb)
                      have n3_ := Aside0.mk (Kd.R_below (by (with_reducible repeat (first | apply Kd.R_alloc | apply Kd.R_drewN | apply Kd.R_drew)); exact HO302.out) hb)
                      have n4_ := Aside0.mk (blk_below (g := gb262) (o := .cells #[.int .i64 a0_0, .slice A0_1 l0_1.length c0_1] 24 (0, 0)) (by (with_reducible repeat (first | refine blk_drewN ?_ _ | refine blk_drew ?_ | refine blk_alloc ?_ _)); exact BK262.out) hb)
                      have n5_ := Aside0.mk (blk_below (g := gb263) (o := .cells #[.int .i64 a2_0, .int .i64 a2_1, .int .i64 a2_2] 41 (0, 0)) (by (with_reducible repeat (first | refine blk_drewN ?_ _ | refine blk_drew ?_ | refine blk_alloc ?_ _)); exact BK263.out) hb)
                      have n6_ := Aside0.mk (blk_below (g := gb269) (o := .cells #[.int .i64 t265, .slice Ao17 t266.length co17] 24 (0, 0)) (by (with_reducible repeat (first | refine blk_drewN ?_ _ | refine blk_drew ?_ | refine blk_alloc ?_ _)); exact BK269.out) hb)
                      have n7_ := Aside0.mk (blk_below (g := gb275) (o := .cells #[.int .i64 t265, u276001] 24 (0, 0)) (by (with_reducible repeat (first | refine blk_drewN ?_ _ | refine blk_drew ?_ | refine blk_alloc ?_ _)); exact BK275.out) hb)
                      have n8_ := Aside0.mk (blk_below (g := gb276) (o := .cells #[.int .i64 t265, u277001] 24 (0, 0)) (by (with_reducible repeat (first | refine blk_drewN ?_ _ | refine blk_drew ?_ | refine blk_alloc ?_ _)); exact BK276.out) hb)
                      have n9_ := Aside0.mk (below_step (by repeat (first | (with_reducible first | exact HB.out | apply below_alloc | apply pw_below_drewN | apply below_drew1 | refine below_set ?_ GE262.out | refine below_set ?_ GE263.out | refine below_set ?_ GE269.out | refine below_set ?_ GE275.out | refine below_set ?_ GE276.out) | exact HB.out)) hb)
                      have n10_ := Aside0.mk (hbox)
                      have n11_ := Aside0.mk ((by rw [hg]; exact (below_size (by repeat (first | (with_reducible first | exact HB.out | apply below_alloc | apply pw_below_drewN | apply below_drew1 | refine below_set ?_ GE262.out | refine below_set ?_ GE263.out | refine below_set ?_ GE269.out | refine below_set ?_ GE275.out | refine below_set ?_ GE276.out) | exact HB.out))) : w.heap.size ≤ gb313))
                      have n12_ := Aside0.mk ((by rw [hg]; exact (below_size (by repeat (first | (with_reducible first | exact HB.out | apply below_alloc | apply pw_below_drewN | apply below_drew1 | refine below_set ?_ GE262.out | refine below_set ?_ GE263.out | refine below_set ?_ GE269.out | refine below_set ?_ GE275.out | refine below_set ?_ GE276.out) | exact HB.out))) : w.heap.size ≤ gb313))
                      have n13_ := Aside0.mk ((by rw [hg]; exact Nat.ne_of_lt (blk_lt (g := gb262) (o := .cells #[.int .i64 a0_0, .slice A0_1 l0_1.length c0_1] 24 (0, 0)) (by (with_reducible repeat (first | refine blk_drewN ?_ _ | refine blk_drew ?_ | refine blk_alloc ?_ _)); exact BK262.out)) : gb262 ≠ gb313))
                      have n14_ := Aside0.mk ((by rw [hg]; exact Nat.ne_of_gt (blk_lt (g := gb262) (o := .cells #[.int .i64 a0_0, .slice A0_1 l0_1.length c0_1] 24 (0, 0)) (by (with_reducible repeat (first | refine blk_drewN ?_ _ | refine blk_drew ?_ | refine blk_alloc ?_ _)); exact BK262.out)) : gb313 ≠ gb262))
                      have n15_ := Aside0.mk ((by rw [hg]; exact Nat.ne_of_lt (blk_lt (g := gb263) (o := .cells #[.int .i64 a2_0, .int .i64 a2_1, .int .i64 a2_2] 41 (0, 0)) (by (with_reducible repeat (first | refine blk_drewN ?_ _ | refine blk_drew ?_ | refine blk_alloc ?_ _)); exact BK263.out)) : gb263 ≠ gb313))
                      have n16_ := Aside0.mk ((by rw [hg]; exact Nat.ne_of_gt (blk_lt (g := gb263) (o := .cells #[.int .i64 a2_0, .int .i64 a2_1, .int .i64 a2_2] 41 (0, 0)) (by (with_reducible repeat (first | refine blk_drewN ?_ _ | refine blk_drew ?_ | refine blk_alloc ?_ _)); exact BK263.out)) : gb313 ≠ gb263))
                      have n17_ := Aside0.mk ((by rw [hg]; exact Nat.ne_of_lt (blk_lt (g := gb269) (o := .cells #[.int .i64 t265, .slice Ao17 t266.length co17] 24 (0, 0)) (by (with_reducible repeat (first | refine blk_drewN ?_ _ | refine blk_drew ?_ | refine blk_alloc ?_ _)); exact BK269.out)) : gb269 ≠ gb313))
                      have n18_ := Aside0.mk ((by rw [hg]; exact Nat.ne_of_gt (blk_lt (g := gb269) (o := .cells #[.int .i64 t265, .slice Ao17 t266.length co17] 24 (0, 0)) (by (with_reducible repeat (first | refine blk_drewN ?_ _ | refine blk_drew ?_ | refine blk_alloc ?_ _)); exact BK269.out)) : gb313 ≠ gb269))
                      have n19_ := Aside0.mk ((by rw [hg]; exact Nat.ne_of_lt (blk_lt (g := gb275) (o := .cells #[.int .i64 t265, u276001] 24 (0, 0)) (by (with_reducible repeat (first | refine blk_drewN ?_ _ | refine blk_drew ?_ | refine blk_alloc ?_ _)); exact BK275.out)) : gb275 ≠ gb313))
                      have n20_ := Aside0.mk ((by rw [hg]; exact Nat.ne_of_gt (blk_lt (g := gb275) (o := .cells #[.int .i64 t265, u276001] 24 (0, 0)) (by (with_reducible repeat (first | refine blk_drewN ?_ _ | refine blk_drew ?_ | refine blk_alloc ?_ _)); exact BK275.out)) : gb313 ≠ gb275))
                      have n21_ := Aside0.mk ((by rw [hg]; exact Nat.ne_of_lt (blk_lt (g := gb276) (o := .cells #[.int .i64 t265, u277001] 24 (0, 0)) (by (with_reducible repeat (first | refine blk_drewN ?_ _ | refine blk_drew ?_ | refine blk_alloc ?_ _)); exact BK276.out)) : gb276 ≠ gb313))
                      have n22_ := Aside0.mk ((by rw [hg]; exact Nat.ne_of_gt (blk_lt (g := gb276) (o := .cells #[.int .i64 t265, u277001] 24 (0, 0)) (by (with_reducible repeat (first | refine blk_drewN ?_ _ | refine blk_drew ?_ | refine blk_alloc ?_ _)); exact BK276.out)) : gb313 ≠ gb276))
                      clear HO_270001
                      clear HO_276001
                      clear HO_277001
                      clear HO302
                      clear BK262
                      clear BK263
                      clear BK269
                      clear BK275
                      clear BK276
                      clear HB
                      have HO_270001 := n0_
                      have HO_276001 := n1_
                      have HO_277001 := n2_
                      have HO302 := n3_
                      have BK262 := n4_
                      have BK263 := n5_
                      have BK269 := n6_
                      have BK275 := n7_
                      have BK276 := n8_
                      have HB := n9_
                      have BK313 := n10_
                      have GW313 := n11_
                      have GE313 := n12_
                      have NB262_313 := n13_
                      have NB313_262 := n14_
                      have NB263_313 := n15_
                      have NB313_263 := n16_
                      have NB269_313 := n17_
                      have NB313_269 := n18_
                      have NB275_313 := n19_
                      have NB313_275 := n20_
                      have NB276_313 := n21_
                      have NB313_276 := n22_
                      clear n0_ n1_ n2_ n3_ n4_ n5_ n6_ n7_ n8_ n9_ n10_ n11_ n12_ n13_ n14_ n15_ n16_ n17_ n18_ n19_ n20_ n21_ n22_
                      clear hb hbox hg
                      refine hK.out _ _ ⟨(blk_cell BK269.out 0).trans rfl, (blk_cell BK269.out 1).trans rfl, (blk_cell BK263.out 0).trans rfl, (blk_cell BK263.out 1).trans rfl, (blk_cell BK263.out 2).trans rfl⟩ (fun hHeld => ?_)
                      clear hK K
                      refine norm_ (a' := ?_) ?_ ?_
                      rotate_left
                      · show Act.put _ (some 17) _ = _
                        simp only [Act.put, List.setIfInBounds_toArray, List.set_cons_zero, List.set_cons_succ, i64_w, i32_w]
                        rfl
                      exact norm_ (by first | (simp only [putAll, Act.put, List.setIfInBounds_toArray, List.set_cons_zero, List.set_cons_succ]; done) | (simp only [putAll, Act.put, List.setIfInBounds_toArray, List.set_cons_zero, List.set_cons_succ]; rfl)) (hJ5_11 (v301, gb313) _ ⟨hHeld, (by (with_reducible repeat (first | apply Kd.R_alloc | apply Kd.R_drewN | apply Kd.R_drew)); exact HO302.out), (by (with_reducible repeat (first | apply Kd.R_alloc | apply Kd.R_drewN | apply Kd.R_drew)); exact HO_270001.out), (by (with_reducible repeat (first | apply Kd.R_alloc | apply Kd.R_drewN | apply Kd.R_drew)); exact HO_276001.out), (by (with_reducible repeat (first | apply Kd.R_alloc | apply Kd.R_drewN | apply Kd.R_drew)); exact HO_277001.out), (by (with_reducible repeat (first | refine blk_drewN ?_ _ | refine blk_drew ?_ | refine blk_alloc ?_ _)); exact BK262.out), (by (with_reducible repeat (first | refine blk_drewN ?_ _ | refine blk_drew ?_ | refine blk_alloc ?_ _)); exact BK263.out), (by (with_reducible repeat (first | refine blk_drewN ?_ _ | refine blk_drew ?_ | refine blk_alloc ?_ _)); exact BK269.out), (by (with_reducible repeat (first | refine blk_drewN ?_ _ | refine blk_drew ?_ | refine blk_alloc ?_ _)); exact BK275.out), (by (with_reducible repeat (first | refine blk_drewN ?_ _ | refine blk_drew ?_ | refine blk_alloc ?_ _)); exact BK276.out), (by (with_reducible repeat (first | refine blk_drewN ?_ _ | refine blk_drew ?_ | refine blk_alloc ?_ _)); exact BK313.out), GW313.out, GE313.out, NB262_313.out, NB313_262.out, NB263_313.out, NB313_263.out, NB269_313.out, NB313_269.out, NB275_313.out, NB313_275.out, NB276_313.out, NB313_276.out, (by repeat (first | (with_reducible first | exact HB.out | apply below_alloc | apply pw_below_drewN | apply below_drew1 | refine below_set ?_ GE262.out | refine below_set ?_ GE263.out | refine below_set ?_ GE269.out | refine below_set ?_ GE275.out | refine below_set ?_ GE276.out | refine below_set ?_ GE313.out) | exact HB.out))⟩)
                · skip
                  rintro ⟨v304, gb313⟩ w143 ⟨hS_, h0_, h1_, h2_, h3_, h4_, h5_, h6_, h7_, h8_, h9_, h10_, h11_, h12_, h13_, h14_, h15_, h16_, h17_, h18_, h19_, h20_, h21_, h22_⟩
                  have n0_ : Aside0 (Kd.R k41 41 w143 w.heap.size (fun k_ => some k_ ≠ (.slice Ao17 t266.length co17 : Value).ownBlock ∧ some k_ ≠ (u276001 : Value).ownBlock ∧ some k_ ≠ (u277001 : Value).ownBlock ∧ k_ ≠ gb263) v304 y303) := ⟨h0_⟩
                  have n1_ : Aside0 (Kd.R k41 41 w143 w.heap.size (fun k_ => some k_ ≠ (v304 : Value).ownBlock ∧ some k_ ≠ (u276001 : Value).ownBlock ∧ some k_ ≠ (u277001 : Value).ownBlock ∧ k_ ≠ gb263) (.slice Ao17 t266.length co17) t266) := ⟨h1_⟩
                  have n2_ : Aside0 (Kd.R k41 41 w143 w.heap.size (fun k_ => some k_ ≠ (v304 : Value).ownBlock ∧ some k_ ≠ (.slice Ao17 t266.length co17 : Value).ownBlock ∧ some k_ ≠ (u277001 : Value).ownBlock ∧ k_ ≠ gb263) u276001 x276001_1) := ⟨h2_⟩
                  have n3_ : Aside0 (Kd.R k41 41 w143 w.heap.size (fun k_ => some k_ ≠ (v304 : Value).ownBlock ∧ some k_ ≠ (.slice Ao17 t266.length co17 : Value).ownBlock ∧ some k_ ≠ (u276001 : Value).ownBlock ∧ k_ ≠ gb263) u277001 x277001_1) := ⟨h3_⟩
                  have n4_ : Aside0 (w143.heap[gb262]? = some (.cells #[.int .i64 a0_0, .slice A0_1 l0_1.length c0_1] 24 (0, 0))) := ⟨h4_⟩
                  have n5_ : Aside0 (w143.heap[gb263]? = some (.cells #[.int .i64 a2_0, .int .i64 a2_1, .int .i64 a2_2] 41 (0, 0))) := ⟨h5_⟩
                  have n6_ : Aside0 (w143.heap[gb269]? = some (.cells #[.int .i64 t265, .slice Ao17 t266.length co17] 24 (0, 0))) := ⟨h6_⟩
                  have n7_ : Aside0 (w143.heap[gb275]? = some (.cells #[.int .i64 t265, u276001] 24 (0, 0))) := ⟨h7_⟩
                  have n8_ : Aside0 (w143.heap[gb276]? = some (.cells #[.int .i64 t265, u277001] 24 (0, 0))) := ⟨h8_⟩
                  have n9_ : Aside0 (w143.heap[gb313]? = some (.cells #[.int .i64 0, .slice none 0 0] 24 (0, 0))) := ⟨h9_⟩
                  have n10_ : Aside0 (w.heap.size ≤ gb313) := ⟨h10_⟩
                  have n11_ : Aside0 (w.heap.size ≤ gb313) := ⟨h11_⟩
                  have n12_ : Aside0 (gb262 ≠ gb313) := ⟨h12_⟩
                  have n13_ : Aside0 (gb313 ≠ gb262) := ⟨h13_⟩
                  have n14_ : Aside0 (gb263 ≠ gb313) := ⟨h14_⟩
                  have n15_ : Aside0 (gb313 ≠ gb263) := ⟨h15_⟩
                  have n16_ : Aside0 (gb269 ≠ gb313) := ⟨h16_⟩
                  have n17_ : Aside0 (gb313 ≠ gb269) := ⟨h17_⟩
                  have n18_ : Aside0 (gb275 ≠ gb313) := ⟨h18_⟩
                  have n19_ : Aside0 (gb313 ≠ gb275) := ⟨h19_⟩
                  have n20_ : Aside0 (gb276 ≠ gb313) := ⟨h20_⟩
                  have n21_ : Aside0 (gb313 ≠ gb276) := ⟨h21_⟩
                  have n22_ : Aside0 (Below w.heap.size w w143) := ⟨h22_⟩
                  clear HO_270001
                  clear HO_276001
                  clear HO_277001
                  clear BK262
                  clear BK263
                  clear BK269
                  clear BK275
                  clear BK276
                  clear HB
                  clear h0_ h1_ h2_ h3_ h4_ h5_ h6_ h7_ h8_ h9_ h10_ h11_ h12_ h13_ h14_ h15_ h16_ h17_ h18_ h19_ h20_ h21_ h22_
                  have HO305 := n0_
                  have HO_270001 := n1_
                  have HO_276001 := n2_
                  have HO_277001 := n3_
                  have BK262 := n4_
                  have BK263 := n5_
                  have BK269 := n6_
                  have BK275 := n7_
                  have BK276 := n8_
                  have BK313 := n9_
                  have GW313 := n10_
                  have GE313 := n11_
                  have NB262_313 := n12_
                  have NB313_262 := n13_
                  have NB263_313 := n14_
                  have NB313_263 := n15_
                  have NB269_313 := n16_
                  have NB313_269 := n17_
                  have NB275_313 := n18_
                  have NB313_275 := n19_
                  have NB276_313 := n20_
                  have NB313_276 := n21_
                  have HB := n22_
                  clear n0_ n1_ n2_ n3_ n4_ n5_ n6_ n7_ n8_ n9_ n10_ n11_ n12_ n13_ n14_ n15_ n16_ n17_ n18_ n19_ n20_ n21_ n22_
                  have hHeld : w143.cell? ⟨gb269, 0, none⟩ = some (.int .i64 t265) ∧ w143.cell? ⟨gb269, 1, none⟩ = some (.slice Ao17 t266.length co17) ∧ w143.cell? ⟨gb263, 0, none⟩ = some (.int .i64 a2_0) ∧ w143.cell? ⟨gb263, 1, none⟩ = some (.int .i64 a2_1) ∧ w143.cell? ⟨gb263, 2, none⟩ = some (.int .i64 a2_2) := hS_
                  refine norm_ (a' := ?_) ?_ ?_
                  rotate_left
                  · simp only [putAll, Act.put, List.setIfInBounds_toArray, List.set_cons_zero, List.set_cons_succ]
                    rfl
                  refine one_ (i := 5) (N := some 88) #[true, true, true, true, true, true, true, true, false, false, false, true, false] rfl rfl (one_of HT_.out (by kernel_rfl)) (by decide) (fun K hK => ?_)
                  refine Kd.R_append_rows_step k41 (w0 := w) w.heap.size (by rfl) (.const (.slice none 0 0)) (.tmp 87) 22 41 (.agg #[(.int .i64 0), (.int .i64 0), (.int .i64 0)]) 24 rfl Try.underlying22 info41 rfl (by decide) (by omega) (.slice none 0 0) ([] : List (S41)) t266 _ _ _ (fun k_ => some k_ ≠ (.slice Ao17 t266.length co17 : Value).ownBlock ∧ some k_ ≠ (u276001 : Value).ownBlock ∧ some k_ ≠ (u277001 : Value).ownBlock ∧ some k_ ≠ (v304 : Value).ownBlock ∧ k_ ≠ gb263) (fun _ => False) rfl rfl ?aO ?aR (fun _ _ h => h) (fun _ h => h.elim) ?aF ?aB ?aS ?aL ?_
                  (case aR => repeat (first | exact (Kd.R_reads' HO_270001.out).2.2 | (with_reducible refine Kd.C_alloc ?_ _) | (with_reducible refine Kd.C_drewN ?_ _) | (with_reducible refine Kd.C_drew ?_)))
                  (case aB => exact (by repeat (first | (with_reducible first | exact HB.out | apply below_alloc | apply pw_below_drewN | apply below_drew1 | refine below_set ?_ GE262.out | refine below_set ?_ GE263.out | refine below_set ?_ GE269.out | refine below_set ?_ GE275.out | refine below_set ?_ GE276.out | refine below_set ?_ GE313.out) | exact HB.out)))
                  (case aF => exact (fun k_ hk => ⟨Kd.fresh' (Kd.R_lt (by (with_reducible repeat (first | apply Kd.R_alloc | apply Kd.R_drewN | apply Kd.R_drew)); exact HO_270001.out)) k_ hk, Kd.fresh' (Kd.R_lt (by (with_reducible repeat (first | apply Kd.R_alloc | apply Kd.R_drewN | apply Kd.R_drew)); exact HO_276001.out)) k_ hk, Kd.fresh' (Kd.R_lt (by (with_reducible repeat (first | apply Kd.R_alloc | apply Kd.R_drewN | apply Kd.R_drew)); exact HO_277001.out)) k_ hk, Kd.fresh' (Kd.R_lt (by (with_reducible repeat (first | apply Kd.R_alloc | apply Kd.R_drewN | apply Kd.R_drew)); exact HO305.out)) k_ hk, Kd.freshB (g := gb263) (o := .cells #[.int .i64 a2_0, .int .i64 a2_1, .int .i64 a2_2] 41 (0, 0)) (by (with_reducible repeat (first | refine blk_drewN ?_ _ | refine blk_drew ?_ | refine blk_alloc ?_ _)); exact BK263.out) k_ hk⟩))
                  (case aO => exact ((Kd.R_nil _ _ _ _ (fun k_ => some k_ ≠ (.slice Ao17 t266.length co17 : Value).ownBlock ∧ some k_ ≠ (u276001 : Value).ownBlock ∧ some k_ ≠ (u277001 : Value).ownBlock ∧ some k_ ≠ (v304 : Value).ownBlock ∧ k_ ≠ gb263))))
                  (case aS => exact (below_size (by repeat (first | (with_reducible first | exact HB.out | apply below_alloc | apply pw_below_drewN | apply below_drew1 | refine below_set ?_ GE262.out | refine below_set ?_ GE263.out | refine below_set ?_ GE269.out | refine below_set ?_ GE275.out | refine below_set ?_ GE276.out | refine below_set ?_ GE313.out) | exact HB.out))))
                  (case aL => have := LMc121.out; omega)
                  intro v301 w144 ho hb hg hat
                  rw [← Ny300.out] at ho
                  have n0_ := Aside0.mk (Kd.R_after (Kd.R_apart_nil (by (with_reducible repeat (first | apply Kd.R_alloc | apply Kd.R_drewN | apply Kd.R_drew)); exact HO_270001.out)) hg hat)
                  have n1_ := Aside0.mk (Kd.R_after (Kd.R_apart_nil (by (with_reducible repeat (first | apply Kd.R_alloc | apply Kd.R_drewN | apply Kd.R_drew)); exact HO_276001.out)) hg hat)
                  have n2_ := Aside0.mk (Kd.R_after (Kd.R_apart_nil (by (with_reducible repeat (first | apply Kd.R_alloc | apply Kd.R_drewN | apply Kd.R_drew)); exact HO_277001.out)) hg hat)
                  have n3_ := Aside0.mk (blk_grown (g := gb262) (o := .cells #[.int .i64 a0_0, .slice A0_1 l0_1.length c0_1] 24 (0, 0)) (by (with_reducible repeat (first | refine blk_drewN ?_ _ | refine blk_drew ?_ | refine blk_alloc ?_ _)); exact BK262.out) hg (by simp [Value.ownBlock]))
                  have n4_ := Aside0.mk (blk_grown (g := gb263) (o := .cells #[.int .i64 a2_0, .int .i64 a2_1, .int .i64 a2_2] 41 (0, 0)) (by (with_reducible repeat (first | refine blk_drewN ?_ _ | refine blk_drew ?_ | refine blk_alloc ?_ _)); exact BK263.out) hg (by simp [Value.ownBlock]))
                  have n5_ := Aside0.mk (blk_grown (g := gb269) (o := .cells #[.int .i64 t265, .slice Ao17 t266.length co17] 24 (0, 0)) (by (with_reducible repeat (first | refine blk_drewN ?_ _ | refine blk_drew ?_ | refine blk_alloc ?_ _)); exact BK269.out) hg (by simp [Value.ownBlock]))
                  have n6_ := Aside0.mk (blk_grown (g := gb275) (o := .cells #[.int .i64 t265, u276001] 24 (0, 0)) (by (with_reducible repeat (first | refine blk_drewN ?_ _ | refine blk_drew ?_ | refine blk_alloc ?_ _)); exact BK275.out) hg (by simp [Value.ownBlock]))
                  have n7_ := Aside0.mk (blk_grown (g := gb276) (o := .cells #[.int .i64 t265, u277001] 24 (0, 0)) (by (with_reducible repeat (first | refine blk_drewN ?_ _ | refine blk_drew ?_ | refine blk_alloc ?_ _)); exact BK276.out) hg (by simp [Value.ownBlock]))
                  have n8_ := Aside0.mk (Kd.R_after (Kd.R_apart_nil (by (with_reducible repeat (first | apply Kd.R_alloc | apply Kd.R_drewN | apply Kd.R_drew)); exact HO305.out)) hg hat)
                  have n9_ := Aside0.mk (blk_grown (g := gb313) (o := .cells #[.int .i64 0, .slice none 0 0] 24 (0, 0)) (by (with_reducible repeat (first | refine blk_drewN ?_ _ | refine blk_drew ?_ | refine blk_alloc ?_ _)); exact BK313.out) hg (by simp [Value.ownBlock]))
                  have n10_ := Aside0.mk (hb)
                  have n11_ := Aside0.mk (ho)
                  clear HO_270001
                  clear HO_276001
                  clear HO_277001
                  clear BK262
                  clear BK263
                  clear BK269
                  clear BK275
                  clear BK276
                  clear HO305
                  clear BK313
                  clear HB
                  have HO_270001 := n0_
                  have HO_276001 := n1_
                  have HO_277001 := n2_
                  have BK262 := n3_
                  have BK263 := n4_
                  have BK269 := n5_
                  have BK275 := n6_
                  have BK276 := n7_
                  have HO305 := n8_
                  have BK313 := n9_
                  have HB := n10_
                  have HO302 := n11_
                  clear n0_ n1_ n2_ n3_ n4_ n5_ n6_ n7_ n8_ n9_ n10_ n11_
                  clear ho hb hg hat
                  refine hK.out _ _ ⟨(blk_cell BK269.out 0).trans rfl, (blk_cell BK269.out 1).trans rfl, (blk_cell BK263.out 0).trans rfl, (blk_cell BK263.out 1).trans rfl, (blk_cell BK263.out 2).trans rfl⟩ (fun hHeld => ?_)
                  clear hK K
                  refine norm_ (a' := ?_) ?_ ?_
                  rotate_left
                  · show Act.put _ (some 88) _ = _
                    simp only [Act.put, List.setIfInBounds_toArray, List.set_cons_zero, List.set_cons_succ, i64_w, i32_w]
                    rfl
                  exact norm_ (by first | (simp only [putAll, Act.put, List.setIfInBounds_toArray, List.set_cons_zero, List.set_cons_succ]; done) | (simp only [putAll, Act.put, List.setIfInBounds_toArray, List.set_cons_zero, List.set_cons_succ]; rfl)) (hJ5_7_11 (v301, v304, gb313) _ ⟨hHeld, (by (with_reducible repeat (first | apply Kd.R_alloc | apply Kd.R_drewN | apply Kd.R_drew)); exact Kd.R_mono HO302.out (fun _ hk => ⟨hk.2.2.2.1, ⟨hk.1, ⟨hk.2.1, ⟨hk.2.2.1, hk.2.2.2.2⟩⟩⟩⟩)), (by (with_reducible repeat (first | apply Kd.R_alloc | apply Kd.R_drewN | apply Kd.R_drew)); exact Kd.R_mono HO305.out (fun _ hk => ⟨hk.2, ⟨hk.1.1, ⟨hk.1.2.1, ⟨hk.1.2.2.1, hk.1.2.2.2⟩⟩⟩⟩)), (by (with_reducible repeat (first | apply Kd.R_alloc | apply Kd.R_drewN | apply Kd.R_drew)); exact Kd.R_mono HO_270001.out (fun _ hk => ⟨hk.2, ⟨hk.1.1, ⟨hk.1.2.1, ⟨hk.1.2.2.1, hk.1.2.2.2⟩⟩⟩⟩)), (by (with_reducible repeat (first | apply Kd.R_alloc | apply Kd.R_drewN | apply Kd.R_drew)); exact Kd.R_mono HO_276001.out (fun _ hk => ⟨hk.2, ⟨hk.1.1, ⟨hk.1.2.1, ⟨hk.1.2.2.1, hk.1.2.2.2⟩⟩⟩⟩)), (by (with_reducible repeat (first | apply Kd.R_alloc | apply Kd.R_drewN | apply Kd.R_drew)); exact Kd.R_mono HO_277001.out (fun _ hk => ⟨hk.2, ⟨hk.1.1, ⟨hk.1.2.1, ⟨hk.1.2.2.1, hk.1.2.2.2⟩⟩⟩⟩)), (by (with_reducible repeat (first | refine blk_drewN ?_ _ | refine blk_drew ?_ | refine blk_alloc ?_ _)); exact BK262.out), (by (with_reducible repeat (first | refine blk_drewN ?_ _ | refine blk_drew ?_ | refine blk_alloc ?_ _)); exact BK263.out), (by (with_reducible repeat (first | refine blk_drewN ?_ _ | refine blk_drew ?_ | refine blk_alloc ?_ _)); exact BK269.out), (by (with_reducible repeat (first | refine blk_drewN ?_ _ | refine blk_drew ?_ | refine blk_alloc ?_ _)); exact BK275.out), (by (with_reducible repeat (first | refine blk_drewN ?_ _ | refine blk_drew ?_ | refine blk_alloc ?_ _)); exact BK276.out), (by (with_reducible repeat (first | refine blk_drewN ?_ _ | refine blk_drew ?_ | refine blk_alloc ?_ _)); exact BK313.out), GW313.out, GE313.out, NB262_313.out, NB313_262.out, NB263_313.out, NB313_263.out, NB269_313.out, NB313_269.out, NB275_313.out, NB313_275.out, NB276_313.out, NB313_276.out, (by repeat (first | (with_reducible first | exact HB.out | apply below_alloc | apply pw_below_drewN | apply below_drew1 | refine below_set ?_ GE262.out | refine below_set ?_ GE263.out | refine below_set ?_ GE269.out | refine below_set ?_ GE275.out | refine below_set ?_ GE276.out | refine below_set ?_ GE313.out) | exact HB.out))⟩)
              · skip
                rintro ⟨v301, gb313⟩ w142 ⟨hS_, h0_, h1_, h2_, h3_, h4_, h5_, h6_, h7_, h8_, h9_, h10_, h11_, h12_, h13_, h14_, h15_, h16_, h17_, h18_, h19_, h20_, h21_, h22_⟩
                have n0_ : Aside0 (Kd.R k41 41 w142 w.heap.size (fun k_ => some k_ ≠ (.slice Ao17 t266.length co17 : Value).ownBlock ∧ some k_ ≠ (u276001 : Value).ownBlock ∧ some k_ ≠ (u277001 : Value).ownBlock ∧ k_ ≠ gb263) v301 y300) := ⟨h0_⟩
                have n1_ : Aside0 (Kd.R k41 41 w142 w.heap.size (fun k_ => some k_ ≠ (v301 : Value).ownBlock ∧ some k_ ≠ (u276001 : Value).ownBlock ∧ some k_ ≠ (u277001 : Value).ownBlock ∧ k_ ≠ gb263) (.slice Ao17 t266.length co17) t266) := ⟨h1_⟩
                have n2_ : Aside0 (Kd.R k41 41 w142 w.heap.size (fun k_ => some k_ ≠ (v301 : Value).ownBlock ∧ some k_ ≠ (.slice Ao17 t266.length co17 : Value).ownBlock ∧ some k_ ≠ (u277001 : Value).ownBlock ∧ k_ ≠ gb263) u276001 x276001_1) := ⟨h2_⟩
                have n3_ : Aside0 (Kd.R k41 41 w142 w.heap.size (fun k_ => some k_ ≠ (v301 : Value).ownBlock ∧ some k_ ≠ (.slice Ao17 t266.length co17 : Value).ownBlock ∧ some k_ ≠ (u276001 : Value).ownBlock ∧ k_ ≠ gb263) u277001 x277001_1) := ⟨h3_⟩
                have n4_ : Aside0 (w142.heap[gb262]? = some (.cells #[.int .i64 a0_0, .slice A0_1 l0_1.length c0_1] 24 (0, 0))) := ⟨h4_⟩
                have n5_ : Aside0 (w142.heap[gb263]? = some (.cells #[.int .i64 a2_0, .int .i64 a2_1, .int .i64 a2_2] 41 (0, 0))) := ⟨h5_⟩
                have n6_ : Aside0 (w142.heap[gb269]? = some (.cells #[.int .i64 t265, .slice Ao17 t266.length co17] 24 (0, 0))) := ⟨h6_⟩
                have n7_ : Aside0 (w142.heap[gb275]? = some (.cells #[.int .i64 t265, u276001] 24 (0, 0))) := ⟨h7_⟩
                have n8_ : Aside0 (w142.heap[gb276]? = some (.cells #[.int .i64 t265, u277001] 24 (0, 0))) := ⟨h8_⟩
                have n9_ : Aside0 (w142.heap[gb313]? = some (.cells #[.int .i64 0, .slice none 0 0] 24 (0, 0))) := ⟨h9_⟩
                have n10_ : Aside0 (w.heap.size ≤ gb313) := ⟨h10_⟩
                have n11_ : Aside0 (w.heap.size ≤ gb313) := ⟨h11_⟩
                have n12_ : Aside0 (gb262 ≠ gb313) := ⟨h12_⟩
                have n13_ : Aside0 (gb313 ≠ gb262) := ⟨h13_⟩
                have n14_ : Aside0 (gb263 ≠ gb313) := ⟨h14_⟩
                have n15_ : Aside0 (gb313 ≠ gb263) := ⟨h15_⟩
                have n16_ : Aside0 (gb269 ≠ gb313) := ⟨h16_⟩
                have n17_ : Aside0 (gb313 ≠ gb269) := ⟨h17_⟩
                have n18_ : Aside0 (gb275 ≠ gb313) := ⟨h18_⟩
                have n19_ : Aside0 (gb313 ≠ gb275) := ⟨h19_⟩
                have n20_ : Aside0 (gb276 ≠ gb313) := ⟨h20_⟩
                have n21_ : Aside0 (gb313 ≠ gb276) := ⟨h21_⟩
                have n22_ : Aside0 (Below w.heap.size w w142) := ⟨h22_⟩
                clear HO_270001
                clear HO_276001
                clear HO_277001
                clear BK262
                clear BK263
                clear BK269
                clear BK275
                clear BK276
                clear HB
                clear h0_ h1_ h2_ h3_ h4_ h5_ h6_ h7_ h8_ h9_ h10_ h11_ h12_ h13_ h14_ h15_ h16_ h17_ h18_ h19_ h20_ h21_ h22_
                have HO302 := n0_
                have HO_270001 := n1_
                have HO_276001 := n2_
                have HO_277001 := n3_
                have BK262 := n4_
                have BK263 := n5_
                have BK269 := n6_
                have BK275 := n7_
                have BK276 := n8_
                have BK313 := n9_
                have GW313 := n10_
                have GE313 := n11_
                have NB262_313 := n12_
                have NB313_262 := n13_
                have NB263_313 := n14_
                have NB313_263 := n15_
                have NB269_313 := n16_
                have NB313_269 := n17_
                have NB275_313 := n18_
                have NB313_275 := n19_
                have NB276_313 := n20_
                have NB313_276 := n21_
                have HB := n22_
                clear n0_ n1_ n2_ n3_ n4_ n5_ n6_ n7_ n8_ n9_ n10_ n11_ n12_ n13_ n14_ n15_ n16_ n17_ n18_ n19_ n20_ n21_ n22_
                have hHeld : w142.cell? ⟨gb269, 0, none⟩ = some (.int .i64 t265) ∧ w142.cell? ⟨gb269, 1, none⟩ = some (.slice Ao17 t266.length co17) ∧ w142.cell? ⟨gb263, 0, none⟩ = some (.int .i64 a2_0) ∧ w142.cell? ⟨gb263, 1, none⟩ = some (.int .i64 a2_1) ∧ w142.cell? ⟨gb263, 2, none⟩ = some (.int .i64 a2_2) := hS_
                refine norm_ (a' := ?_) ?_ ?_
                rotate_left
                · simp only [putAll, Act.put, List.setIfInBounds_toArray, List.set_cons_zero, List.set_cons_succ]
                  rfl
                refine one_ (i := 7) (N := some 90) #[true, true, true, true, true, true, true, true, false, false, false, true, false] rfl rfl (one_of HT_.out (by kernel_rfl)) (by decide) (fun K hK => ?_)
                refine Kd.R_lit_step k41 _ 41 ?hg (N := 90) ?hd (xs := ([(⟨a2_0, a2_1, a2_2⟩ : S41)] : List (S41))) (inner := [.int .i64 a2_0, .int .i64 a2_1, .int .i64 a2_2]) (ok := fun _ => True) (okp := fun _ => True) ?hr ?hp (fun _ hk => hk) trivial (Below.refl _ _) (Nat.le_refl _) (by simp) ?_; (case hd => rfl); (case hg => rfl); (case hr => first | (go_simp; done) | (go_simp; rfl)); (case hp => exact (Reps.c3 (show Kd.M k41 _ _ _ (⟨a2_0, a2_1, a2_2⟩ : S41) [.int .i64 a2_0, .int .i64 a2_1, .int .i64 a2_2] from (k41_mkM _ _ _ (⟨a2_0, a2_1, a2_2⟩ : S41) )) (Reps.none _ _)))
                intro v304 w143 ho144 hb hg_ hnew_
                clear hg_ hnew_
                (first | rw [← Ny303.out] at ho144 | (simp only [Int.reduceToNat] at ho144; rw [← Ny303.out] at ho144))
                have n0_ := Aside0.mk (Kd.R_elder' (by (with_reducible repeat (first | apply Kd.R_alloc | apply Kd.R_drewN | apply Kd.R_drew)); exact HO_270001.out) (Kd.R_base ho144) hb)
                have n1_ := Aside0.mk (Kd.R_elder' (by (with_reducible repeat (first | apply Kd.R_alloc | apply Kd.R_drewN | apply Kd.R_drew)); exact HO_276001.out) (Kd.R_base ho144) hb)
                have n2_ := Aside0.mk (Kd.R_elder' (by (with_reducible repeat (first | apply Kd.R_alloc | apply Kd.R_drewN | apply Kd.R_drew)); exact HO_277001.out) (Kd.R_base ho144) hb)
                have n3_ := Aside0.mk (Kd.R_elder' (by (with_reducible repeat (first | apply Kd.R_alloc | apply Kd.R_drewN | apply Kd.R_drew)); exact HO302.out) (Kd.R_base ho144) hb)
                have n4_ := Aside0.mk (Kd.R_lower (Kd.R_newB (Kd.R_new' (Kd.R_new' (Kd.R_new' (Kd.R_new' ho144 (Kd.R_lt (by (with_reducible repeat (first | apply Kd.R_alloc | apply Kd.R_drewN | apply Kd.R_drew)); exact HO_270001.out))) (Kd.R_lt (by (with_reducible repeat (first | apply Kd.R_alloc | apply Kd.R_drewN | apply Kd.R_drew)); exact HO_276001.out))) (Kd.R_lt (by (with_reducible repeat (first | apply Kd.R_alloc | apply Kd.R_drewN | apply Kd.R_drew)); exact HO_277001.out))) (Kd.R_lt (by (with_reducible repeat (first | apply Kd.R_alloc | apply Kd.R_drewN | apply Kd.R_drew)); exact HO302.out))) (g := gb263) (o := .cells #[.int .i64 a2_0, .int .i64 a2_1, .int .i64 a2_2] 41 (0, 0)) (by (with_reducible repeat (first | refine blk_drewN ?_ _ | refine blk_drew ?_ | refine blk_alloc ?_ _)); exact BK263.out)) (below_size (by repeat (first | (with_reducible first | exact HB.out | apply below_alloc | apply pw_below_drewN | apply below_drew1 | refine below_set ?_ GE262.out | refine below_set ?_ GE263.out | refine below_set ?_ GE269.out | refine below_set ?_ GE275.out | refine below_set ?_ GE276.out | refine below_set ?_ GE313.out) | exact HB.out))))
                have n5_ := Aside0.mk (blk_below (g := gb262) (o := .cells #[.int .i64 a0_0, .slice A0_1 l0_1.length c0_1] 24 (0, 0)) (by (with_reducible repeat (first | refine blk_drewN ?_ _ | refine blk_drew ?_ | refine blk_alloc ?_ _)); exact BK262.out) hb)
                have n6_ := Aside0.mk (blk_below (g := gb263) (o := .cells #[.int .i64 a2_0, .int .i64 a2_1, .int .i64 a2_2] 41 (0, 0)) (by (with_reducible repeat (first | refine blk_drewN ?_ _ | refine blk_drew ?_ | refine blk_alloc ?_ _)); exact BK263.out) hb)
                have n7_ := Aside0.mk (blk_below (g := gb269) (o := .cells #[.int .i64 t265, .slice Ao17 t266.length co17] 24 (0, 0)) (by (with_reducible repeat (first | refine blk_drewN ?_ _ | refine blk_drew ?_ | refine blk_alloc ?_ _)); exact BK269.out) hb)
                have n8_ := Aside0.mk (blk_below (g := gb275) (o := .cells #[.int .i64 t265, u276001] 24 (0, 0)) (by (with_reducible repeat (first | refine blk_drewN ?_ _ | refine blk_drew ?_ | refine blk_alloc ?_ _)); exact BK275.out) hb)
                have n9_ := Aside0.mk (blk_below (g := gb276) (o := .cells #[.int .i64 t265, u277001] 24 (0, 0)) (by (with_reducible repeat (first | refine blk_drewN ?_ _ | refine blk_drew ?_ | refine blk_alloc ?_ _)); exact BK276.out) hb)
                have n10_ := Aside0.mk (blk_below (g := gb313) (o := .cells #[.int .i64 0, .slice none 0 0] 24 (0, 0)) (by (with_reducible repeat (first | refine blk_drewN ?_ _ | refine blk_drew ?_ | refine blk_alloc ?_ _)); exact BK313.out) hb)
                have n11_ := Aside0.mk (below_step (by repeat (first | (with_reducible first | exact HB.out | apply below_alloc | apply pw_below_drewN | apply below_drew1 | refine below_set ?_ GE262.out | refine below_set ?_ GE263.out | refine below_set ?_ GE269.out | refine below_set ?_ GE275.out | refine below_set ?_ GE276.out | refine below_set ?_ GE313.out) | exact HB.out)) hb)
                clear HO_270001
                clear HO_276001
                clear HO_277001
                clear HO302
                clear BK262
                clear BK263
                clear BK269
                clear BK275
                clear BK276
                clear BK313
                clear HB
                have HO_270001 := n0_
                have HO_276001 := n1_
                have HO_277001 := n2_
                have HO302 := n3_
                have HO305 := n4_
                have BK262 := n5_
                have BK263 := n6_
                have BK269 := n7_
                have BK275 := n8_
                have BK276 := n9_
                have BK313 := n10_
                have HB := n11_
                clear n0_ n1_ n2_ n3_ n4_ n5_ n6_ n7_ n8_ n9_ n10_ n11_
                clear hb ho144
                refine hK.out _ _ ⟨(blk_cell BK269.out 0).trans rfl, (blk_cell BK269.out 1).trans rfl, (blk_cell BK263.out 0).trans rfl, (blk_cell BK263.out 1).trans rfl, (blk_cell BK263.out 2).trans rfl⟩ (fun hHeld => ?_)
                clear hK K
                refine norm_ (a' := ?_) ?_ ?_
                rotate_left
                · show Act.put _ (some 90) _ = _
                  simp only [Act.put, List.setIfInBounds_toArray, List.set_cons_zero, List.set_cons_succ, i64_w, i32_w]
                  rfl
                exact norm_ (by first | (simp only [putAll, Act.put, List.setIfInBounds_toArray, List.set_cons_zero, List.set_cons_succ]; done) | (simp only [putAll, Act.put, List.setIfInBounds_toArray, List.set_cons_zero, List.set_cons_succ]; rfl)) (hJ5_7_11 (v301, v304, gb313) _ ⟨hHeld, (by (with_reducible repeat (first | apply Kd.R_alloc | apply Kd.R_drewN | apply Kd.R_drew)); exact Kd.R_mono HO302.out (fun _ hk => ⟨hk.2, ⟨hk.1.1, ⟨hk.1.2.1, ⟨hk.1.2.2.1, hk.1.2.2.2⟩⟩⟩⟩)), (by (with_reducible repeat (first | apply Kd.R_alloc | apply Kd.R_drewN | apply Kd.R_drew)); exact Kd.R_mono HO305.out (fun _ hk => ⟨hk.1.2, ⟨hk.1.1.1.1.2, ⟨hk.1.1.1.2, ⟨hk.1.1.2, hk.2⟩⟩⟩⟩)), (by (with_reducible repeat (first | apply Kd.R_alloc | apply Kd.R_drewN | apply Kd.R_drew)); exact Kd.R_mono HO_270001.out (fun _ hk => ⟨hk.1.1, ⟨hk.2, ⟨hk.1.2.1, ⟨hk.1.2.2.1, hk.1.2.2.2⟩⟩⟩⟩)), (by (with_reducible repeat (first | apply Kd.R_alloc | apply Kd.R_drewN | apply Kd.R_drew)); exact Kd.R_mono HO_276001.out (fun _ hk => ⟨hk.1.1, ⟨hk.2, ⟨hk.1.2.1, ⟨hk.1.2.2.1, hk.1.2.2.2⟩⟩⟩⟩)), (by (with_reducible repeat (first | apply Kd.R_alloc | apply Kd.R_drewN | apply Kd.R_drew)); exact Kd.R_mono HO_277001.out (fun _ hk => ⟨hk.1.1, ⟨hk.2, ⟨hk.1.2.1, ⟨hk.1.2.2.1, hk.1.2.2.2⟩⟩⟩⟩)), (by (with_reducible repeat (first | refine blk_drewN ?_ _ | refine blk_drew ?_ | refine blk_alloc ?_ _)); exact BK262.out), (by (with_reducible repeat (first | refine blk_drewN ?_ _ | refine blk_drew ?_ | refine blk_alloc ?_ _)); exact BK263.out), (by (with_reducible repeat (first | refine blk_drewN ?_ _ | refine blk_drew ?_ | refine blk_alloc ?_ _)); exact BK269.out), (by (with_reducible repeat (first | refine blk_drewN ?_ _ | refine blk_drew ?_ | refine blk_alloc ?_ _)); exact BK275.out), (by (with_reducible repeat (first | refine blk_drewN ?_ _ | refine blk_drew ?_ | refine blk_alloc ?_ _)); exact BK276.out), (by (with_reducible repeat (first | refine blk_drewN ?_ _ | refine blk_drew ?_ | refine blk_alloc ?_ _)); exact BK313.out), GW313.out, GE313.out, NB262_313.out, NB313_262.out, NB263_313.out, NB313_263.out, NB269_313.out, NB313_269.out, NB275_313.out, NB313_275.out, NB276_313.out, NB313_276.out, (by repeat (first | (with_reducible first | exact HB.out | apply below_alloc | apply pw_below_drewN | apply below_drew1 | refine below_set ?_ GE262.out | refine below_set ?_ GE263.out | refine below_set ?_ GE269.out | refine below_set ?_ GE275.out | refine below_set ?_ GE276.out | refine below_set ?_ GE313.out) | exact HB.out))⟩)
            · skip
              rintro ⟨v301, v304⟩ w143 ⟨hS_, h0_, h1_, h2_, h3_, h4_, h5_, h6_, h7_, h8_, h9_, h10_⟩
              have n0_ : Aside0 (Kd.R k41 41 w143 w.heap.size (fun k_ => some k_ ≠ (v304 : Value).ownBlock ∧ some k_ ≠ (.slice Ao17 t266.length co17 : Value).ownBlock ∧ some k_ ≠ (u276001 : Value).ownBlock ∧ some k_ ≠ (u277001 : Value).ownBlock ∧ k_ ≠ gb263) v301 y300) := ⟨h0_⟩
              have n1_ : Aside0 (Kd.R k41 41 w143 w.heap.size (fun k_ => some k_ ≠ (v301 : Value).ownBlock ∧ some k_ ≠ (.slice Ao17 t266.length co17 : Value).ownBlock ∧ some k_ ≠ (u276001 : Value).ownBlock ∧ some k_ ≠ (u277001 : Value).ownBlock ∧ k_ ≠ gb263) v304 y303) := ⟨h1_⟩
              have n2_ : Aside0 (Kd.R k41 41 w143 w.heap.size (fun k_ => some k_ ≠ (v301 : Value).ownBlock ∧ some k_ ≠ (v304 : Value).ownBlock ∧ some k_ ≠ (u276001 : Value).ownBlock ∧ some k_ ≠ (u277001 : Value).ownBlock ∧ k_ ≠ gb263) (.slice Ao17 t266.length co17) t266) := ⟨h2_⟩
              have n3_ : Aside0 (Kd.R k41 41 w143 w.heap.size (fun k_ => some k_ ≠ (v301 : Value).ownBlock ∧ some k_ ≠ (v304 : Value).ownBlock ∧ some k_ ≠ (.slice Ao17 t266.length co17 : Value).ownBlock ∧ some k_ ≠ (u277001 : Value).ownBlock ∧ k_ ≠ gb263) u276001 x276001_1) := ⟨h3_⟩
              have n4_ : Aside0 (Kd.R k41 41 w143 w.heap.size (fun k_ => some k_ ≠ (v301 : Value).ownBlock ∧ some k_ ≠ (v304 : Value).ownBlock ∧ some k_ ≠ (.slice Ao17 t266.length co17 : Value).ownBlock ∧ some k_ ≠ (u276001 : Value).ownBlock ∧ k_ ≠ gb263) u277001 x277001_1) := ⟨h4_⟩
              have n5_ : Aside0 (w143.heap[gb262]? = some (.cells #[.int .i64 a0_0, .slice A0_1 l0_1.length c0_1] 24 (0, 0))) := ⟨h5_⟩
              have n6_ : Aside0 (w143.heap[gb263]? = some (.cells #[.int .i64 a2_0, .int .i64 a2_1, .int .i64 a2_2] 41 (0, 0))) := ⟨h6_⟩
              have n7_ : Aside0 (w143.heap[gb269]? = some (.cells #[.int .i64 t265, .slice Ao17 t266.length co17] 24 (0, 0))) := ⟨h7_⟩
              have n8_ : Aside0 (w143.heap[gb275]? = some (.cells #[.int .i64 t265, u276001] 24 (0, 0))) := ⟨h8_⟩
              have n9_ : Aside0 (w143.heap[gb276]? = some (.cells #[.int .i64 t265, u277001] 24 (0, 0))) := ⟨h9_⟩
              have n10_ : Aside0 (Below w.heap.size w w143) := ⟨h10_⟩
              clear HO_270001
              clear HO_276001
              clear HO_277001
              clear BK262
              clear BK263
              clear BK269
              clear BK275
              clear BK276
              clear HB
              clear h0_ h1_ h2_ h3_ h4_ h5_ h6_ h7_ h8_ h9_ h10_
              have HO302 := n0_
              have HO305 := n1_
              have HO_270001 := n2_
              have HO_276001 := n3_
              have HO_277001 := n4_
              have BK262 := n5_
              have BK263 := n6_
              have BK269 := n7_
              have BK275 := n8_
              have BK276 := n9_
              have HB := n10_
              clear n0_ n1_ n2_ n3_ n4_ n5_ n6_ n7_ n8_ n9_ n10_
              have hHeld : w143.cell? ⟨gb269, 0, none⟩ = some (.int .i64 t265) ∧ w143.cell? ⟨gb269, 1, none⟩ = some (.slice Ao17 t266.length co17) ∧ w143.cell? ⟨gb263, 0, none⟩ = some (.int .i64 a2_0) ∧ w143.cell? ⟨gb263, 1, none⟩ = some (.int .i64 a2_1) ∧ w143.cell? ⟨gb263, 2, none⟩ = some (.int .i64 a2_2) := hS_
              obtain ⟨Ao145, co145, eo145⟩ := Kd.R_slice HO305.out
              (first | subst eo145 | (injection eo145 with f1_ f2_ f3_; have f4_ := f1_.symm; have f5_ := f3_.symm; clear f1_ f2_ f3_; subst f4_; subst f5_))
              refine norm_ (a' := ?_) ?_ ?_
              rotate_left
              · simp only [putAll, Act.put, List.setIfInBounds_toArray, List.set_cons_zero, List.set_cons_succ]
                rfl
              refine two_ (i := 8) (j := 11) (Ni := some 91) (Nj := some 17) #[true, true, true, true, true, true, true, true, true, false, false, false, false] #[true, true, true, true, true, true, true, true, false, false, false, true, false] rfl rfl rfl rfl (two_of HT_.out (by kernel_rfl)) (by decide) (by decide) (fun K hK => ?_) (fun K hK => ?_)
              · skip
                refine Kd.R_append_rows_step k41 (w0 := w) w.heap.size (by rfl) (.tmp 88) (.tmp 90) 22 41 (.agg #[(.int .i64 0), (.int .i64 0), (.int .i64 0)]) 24 rfl Try.underlying22 info41 rfl (by decide) (by omega) v301 y300 y303 _ _ _ (fun k_ => some k_ ≠ (.slice Ao17 t266.length co17 : Value).ownBlock ∧ some k_ ≠ (u276001 : Value).ownBlock ∧ some k_ ≠ (u277001 : Value).ownBlock ∧ some k_ ≠ (.slice Ao145 y303.length co145 : Value).ownBlock ∧ k_ ≠ gb263) (fun _ => False) rfl rfl ?aO ?aR (fun _ _ h => h) (fun _ h => h.elim) ?aF ?aB ?aS ?aL ?_
                (case aR => repeat (first | exact (Kd.R_reads' HO305.out).2.2 | (with_reducible refine Kd.C_alloc ?_ _) | (with_reducible refine Kd.C_drewN ?_ _) | (with_reducible refine Kd.C_drew ?_)))
                (case aB => exact (by repeat (first | (with_reducible first | exact HB.out | apply below_alloc | apply pw_below_drewN | apply below_drew1 | refine below_set ?_ GE262.out | refine below_set ?_ GE263.out | refine below_set ?_ GE269.out | refine below_set ?_ GE275.out | refine below_set ?_ GE276.out) | exact HB.out)))
                (case aF => exact (fun k_ hk => ⟨Kd.fresh' (Kd.R_lt (by (with_reducible repeat (first | apply Kd.R_alloc | apply Kd.R_drewN | apply Kd.R_drew)); exact HO_270001.out)) k_ hk, Kd.fresh' (Kd.R_lt (by (with_reducible repeat (first | apply Kd.R_alloc | apply Kd.R_drewN | apply Kd.R_drew)); exact HO_276001.out)) k_ hk, Kd.fresh' (Kd.R_lt (by (with_reducible repeat (first | apply Kd.R_alloc | apply Kd.R_drewN | apply Kd.R_drew)); exact HO_277001.out)) k_ hk, Kd.fresh' (Kd.R_lt (by (with_reducible repeat (first | apply Kd.R_alloc | apply Kd.R_drewN | apply Kd.R_drew)); exact HO305.out)) k_ hk, Kd.freshB (g := gb263) (o := .cells #[.int .i64 a2_0, .int .i64 a2_1, .int .i64 a2_2] 41 (0, 0)) (by (with_reducible repeat (first | refine blk_drewN ?_ _ | refine blk_drew ?_ | refine blk_alloc ?_ _)); exact BK263.out) k_ hk⟩))
                (case aO => exact (by (with_reducible repeat (first | apply Kd.R_alloc | apply Kd.R_drewN | apply Kd.R_drew)); exact Kd.R_mono HO302.out (fun _ hk => ⟨hk.2.1, ⟨hk.2.2.1, ⟨hk.2.2.2.1, ⟨hk.1, hk.2.2.2.2⟩⟩⟩⟩)))
                (case aS => exact (below_size (by repeat (first | (with_reducible first | exact HB.out | apply below_alloc | apply pw_below_drewN | apply below_drew1 | refine below_set ?_ GE262.out | refine below_set ?_ GE263.out | refine below_set ?_ GE269.out | refine below_set ?_ GE275.out | refine below_set ?_ GE276.out) | exact HB.out))))
                (case aL => have := LMc122.out; omega)
                intro v307 w144 ho hb hg hat
                rw [← Ny306.out] at ho
                have n0_ := Aside0.mk (Kd.R_after (ok := (fun k_ => some k_ ≠ (u276001 : Value).ownBlock ∧ some k_ ≠ (u277001 : Value).ownBlock ∧ some k_ ≠ (.slice Ao145 y303.length co145 : Value).ownBlock ∧ k_ ≠ gb263)) (by (with_reducible repeat (first | apply Kd.R_alloc | apply Kd.R_drewN | apply Kd.R_drew)); exact Kd.R_mono HO_270001.out (fun _ hk => ⟨⟨hk.2.2.1, ⟨hk.2.2.2.1, ⟨hk.2.1, hk.2.2.2.2⟩⟩⟩, hk.1⟩)) hg hat)
                have n1_ := Aside0.mk (Kd.R_after (ok := (fun k_ => some k_ ≠ (.slice Ao17 t266.length co17 : Value).ownBlock ∧ some k_ ≠ (u277001 : Value).ownBlock ∧ some k_ ≠ (.slice Ao145 y303.length co145 : Value).ownBlock ∧ k_ ≠ gb263)) (by (with_reducible repeat (first | apply Kd.R_alloc | apply Kd.R_drewN | apply Kd.R_drew)); exact Kd.R_mono HO_276001.out (fun _ hk => ⟨⟨hk.2.2.1, ⟨hk.2.2.2.1, ⟨hk.2.1, hk.2.2.2.2⟩⟩⟩, hk.1⟩)) hg hat)
                have n2_ := Aside0.mk (Kd.R_after (ok := (fun k_ => some k_ ≠ (.slice Ao17 t266.length co17 : Value).ownBlock ∧ some k_ ≠ (u276001 : Value).ownBlock ∧ some k_ ≠ (.slice Ao145 y303.length co145 : Value).ownBlock ∧ k_ ≠ gb263)) (by (with_reducible repeat (first | apply Kd.R_alloc | apply Kd.R_drewN | apply Kd.R_drew)); exact Kd.R_mono HO_277001.out (fun _ hk => ⟨⟨hk.2.2.1, ⟨hk.2.2.2.1, ⟨hk.2.1, hk.2.2.2.2⟩⟩⟩, hk.1⟩)) hg hat)
                have n3_ := Aside0.mk (blk_grown (g := gb262) (o := .cells #[.int .i64 a0_0, .slice A0_1 l0_1.length c0_1] 24 (0, 0)) (by (with_reducible repeat (first | refine blk_drewN ?_ _ | refine blk_drew ?_ | refine blk_alloc ?_ _)); exact BK262.out) hg (Kd.R_ne HO302.out BK262.out (by decide)))
                have n4_ := Aside0.mk (blk_grown (g := gb263) (o := .cells #[.int .i64 a2_0, .int .i64 a2_1, .int .i64 a2_2] 41 (0, 0)) (by (with_reducible repeat (first | refine blk_drewN ?_ _ | refine blk_drew ?_ | refine blk_alloc ?_ _)); exact BK263.out) hg (Kd.R_away HO302.out (fun _ hk => hk.2.2.2.2)))
                have n5_ := Aside0.mk (blk_grown (g := gb269) (o := .cells #[.int .i64 t265, .slice Ao17 t266.length co17] 24 (0, 0)) (by (with_reducible repeat (first | refine blk_drewN ?_ _ | refine blk_drew ?_ | refine blk_alloc ?_ _)); exact BK269.out) hg (Kd.R_ne HO302.out BK269.out (by decide)))
                have n6_ := Aside0.mk (blk_grown (g := gb275) (o := .cells #[.int .i64 t265, u276001] 24 (0, 0)) (by (with_reducible repeat (first | refine blk_drewN ?_ _ | refine blk_drew ?_ | refine blk_alloc ?_ _)); exact BK275.out) hg (Kd.R_ne HO302.out BK275.out (by decide)))
                have n7_ := Aside0.mk (blk_grown (g := gb276) (o := .cells #[.int .i64 t265, u277001] 24 (0, 0)) (by (with_reducible repeat (first | refine blk_drewN ?_ _ | refine blk_drew ?_ | refine blk_alloc ?_ _)); exact BK276.out) hg (Kd.R_ne HO302.out BK276.out (by decide)))
                have n8_ := Aside0.mk (Kd.R_after (ok := (fun k_ => some k_ ≠ (.slice Ao17 t266.length co17 : Value).ownBlock ∧ some k_ ≠ (u276001 : Value).ownBlock ∧ some k_ ≠ (u277001 : Value).ownBlock ∧ k_ ≠ gb263)) (by (with_reducible repeat (first | apply Kd.R_alloc | apply Kd.R_drewN | apply Kd.R_drew)); exact Kd.R_mono HO305.out (fun _ hk => ⟨⟨hk.2.1, ⟨hk.2.2.1, ⟨hk.2.2.2.1, hk.2.2.2.2⟩⟩⟩, hk.1⟩)) hg hat)
                have n9_ := Aside0.mk (hb)
                have n10_ := Aside0.mk (ho)
                clear HO_270001
                clear HO_276001
                clear HO_277001
                clear BK262
                clear BK263
                clear BK269
                clear BK275
                clear BK276
                clear HO305
                clear HB
                clear HO302
                have HO_270001 := n0_
                have HO_276001 := n1_
                have HO_277001 := n2_
                have BK262 := n3_
                have BK263 := n4_
                have BK269 := n5_
                have BK275 := n6_
                have BK276 := n7_
                have HO305 := n8_
                have HB := n9_
                have HO308 := n10_
                clear n0_ n1_ n2_ n3_ n4_ n5_ n6_ n7_ n8_ n9_ n10_
                clear ho hb hg hat
                obtain ⟨Ao146, co146, eo146⟩ := Kd.R_slice HO308.out
                (first | subst eo146 | (injection eo146 with f1_ f2_ f3_; have f4_ := f1_.symm; have f5_ := f3_.symm; clear f1_ f2_ f3_; subst f4_; subst f5_))
                refine hK.out _ _ ⟨(blk_cell BK269.out 0).trans rfl, (blk_cell BK269.out 1).trans rfl, (blk_cell BK263.out 0).trans rfl, (blk_cell BK263.out 1).trans rfl, (blk_cell BK263.out 2).trans rfl⟩ (fun hHeld => ?_)
                clear hK K
                refine norm_ (a' := ?_) ?_ ?_
                rotate_left
                · show Act.put _ (some 91) _ = _
                  simp only [Act.put, List.setIfInBounds_toArray, List.set_cons_zero, List.set_cons_succ, i64_w, i32_w]
                  rfl
                refine pure_ (i := 9) (N := some 92) (v := ?_) (a' := ?_) #[true, true, true, true, true, true, true, true, true, true, false, false, false] rfl rfl (any_of HT_.out (by kernel_rfl)) (fun _ _ _ h => hPan_ _ _ _ _ _ h) (Or.inl ⟨by rfl, ?_⟩) ?_ ?_
                rotate_left
                · intro w'
                  go_simp
                  with_reducible rfl
                rotate_left
                · simp only [Act.put, List.setIfInBounds_toArray, List.set_cons_zero, List.set_cons_succ, i64_w, i32_w]
                  rfl
                exact norm_ (by first | (simp only [putAll, Act.put, List.setIfInBounds_toArray, List.set_cons_zero, List.set_cons_succ]; done) | (simp only [putAll, Act.put, List.setIfInBounds_toArray, List.set_cons_zero, List.set_cons_succ]; rfl)) (hJ5_7_8 (v301, .slice Ao145 y303.length co145, .slice Ao146 y306.length co146) _ ⟨hHeld, (by (with_reducible repeat (first | apply Kd.R_alloc | apply Kd.R_drewN | apply Kd.R_drew)); exact Kd.R_mono HO305.out (fun _ hk => ⟨hk.2, ⟨hk.1.1, ⟨hk.1.2.1, ⟨hk.1.2.2.1, hk.1.2.2.2⟩⟩⟩⟩)), (by (with_reducible repeat (first | apply Kd.R_alloc | apply Kd.R_drewN | apply Kd.R_drew)); exact Kd.R_mono HO308.out (fun _ hk => ⟨hk.2.2.2.1, ⟨hk.1, ⟨hk.2.1, ⟨hk.2.2.1, hk.2.2.2.2⟩⟩⟩⟩)), (by (with_reducible repeat (first | apply Kd.R_alloc | apply Kd.R_drewN | apply Kd.R_drew)); exact Kd.R_mono HO_270001.out (fun _ hk => ⟨hk.1.2.2.1, ⟨hk.2, ⟨hk.1.1, ⟨hk.1.2.1, hk.1.2.2.2⟩⟩⟩⟩)), (by (with_reducible repeat (first | apply Kd.R_alloc | apply Kd.R_drewN | apply Kd.R_drew)); exact Kd.R_mono HO_276001.out (fun _ hk => ⟨hk.1.2.2.1, ⟨hk.2, ⟨hk.1.1, ⟨hk.1.2.1, hk.1.2.2.2⟩⟩⟩⟩)), (by (with_reducible repeat (first | apply Kd.R_alloc | apply Kd.R_drewN | apply Kd.R_drew)); exact Kd.R_mono HO_277001.out (fun _ hk => ⟨hk.1.2.2.1, ⟨hk.2, ⟨hk.1.1, ⟨hk.1.2.1, hk.1.2.2.2⟩⟩⟩⟩)), (by (with_reducible repeat (first | refine blk_drewN ?_ _ | refine blk_drew ?_ | refine blk_alloc ?_ _)); exact BK262.out), (by (with_reducible repeat (first | refine blk_drewN ?_ _ | refine blk_drew ?_ | refine blk_alloc ?_ _)); exact BK263.out), (by (with_reducible repeat (first | refine blk_drewN ?_ _ | refine blk_drew ?_ | refine blk_alloc ?_ _)); exact BK269.out), (by (with_reducible repeat (first | refine blk_drewN ?_ _ | refine blk_drew ?_ | refine blk_alloc ?_ _)); exact BK275.out), (by (with_reducible repeat (first | refine blk_drewN ?_ _ | refine blk_drew ?_ | refine blk_alloc ?_ _)); exact BK276.out), (by repeat (first | (with_reducible first | exact HB.out | apply below_alloc | apply pw_below_drewN | apply below_drew1 | refine below_set ?_ GE262.out | refine below_set ?_ GE263.out | refine below_set ?_ GE269.out | refine below_set ?_ GE275.out | refine below_set ?_ GE276.out) | exact HB.out))⟩)
              · skip
                refine box_step ?hg (N := 17) ?hd (cs := #[.int .i64 0, .slice none 0 0]) (t := 24) ?hr ?_; (case hd => rfl); (case hg => rfl); (case hr => first | (go_simp; done) | (go_simp; rfl))
                intro gb313 hg w144 hbox hb
                have n0_ := Aside0.mk (Kd.R_below (by (with_reducible repeat (first | apply Kd.R_alloc | apply Kd.R_drewN | apply Kd.R_drew)); exact HO_270001.out) hb)
                have n1_ := Aside0.mk (Kd.R_below (by (with_reducible repeat (first | apply Kd.R_alloc | apply Kd.R_drewN | apply Kd.R_drew)); exact HO_276001.out) hb)
                have n2_ := Aside0.mk (Kd.R_below (by (with_reducible repeat (first | apply Kd.R_alloc | apply Kd.R_drewN | apply Kd.R_drew)); exact HO_277001.out) hb)
                have n3_ := Aside0.mk (Kd.R_below (by (with_reducible repeat (first | apply Kd.R_alloc | apply Kd.R_drewN | apply Kd.R_drew)); exact HO302.out) hb)
                have n4_ := Aside0.mk (Kd.R_below (by (with_reducible repeat (first | apply Kd.R_alloc | apply Kd.R_drewN | apply Kd.R_drew)); exact HO305.out) hb)
                have n5_ := Aside0.mk (blk_below (g := gb262) (o := .cells #[.int .i64 a0_0, .slice A0_1 l0_1.length c0_1] 24 (0, 0)) (by (with_reducible repeat (first | refine blk_drewN ?_ _ | refine blk_drew ?_ | refine blk_alloc ?_ _)); exact BK262.out) hb)
                have n6_ := Aside0.mk (blk_below (g := gb263) (o := .cells #[.int .i64 a2_0, .int .i64 a2_1, .int .i64 a2_2] 41 (0, 0)) (by (with_reducible repeat (first | refine blk_drewN ?_ _ | refine blk_drew ?_ | refine blk_alloc ?_ _)); exact BK263.out) hb)
                have n7_ := Aside0.mk (blk_below (g := gb269) (o := .cells #[.int .i64 t265, .slice Ao17 t266.length co17] 24 (0, 0)) (by (with_reducible repeat (first | refine blk_drewN ?_ _ | refine blk_drew ?_ | refine blk_alloc ?_ _)); exact BK269.out) hb)
                have n8_ := Aside0.mk (blk_below (g := gb275) (o := .cells #[.int .i64 t265, u276001] 24 (0, 0)) (by (with_reducible repeat (first | refine blk_drewN ?_ _ | refine blk_drew ?_ | refine blk_alloc ?_ _)); exact BK275.out) hb)
                have n9_ := Aside0.mk (blk_below (g := gb276) (o := .cells #[.int .i64 t265, u277001] 24 (0, 0)) (by (with_reducible repeat (first | refine blk_drewN ?_ _ | refine blk_drew ?_ | refine blk_alloc ?_ _)); exact BK276.out) hb)
                have n10_ := Aside0.mk (below_step (by repeat (first | (with_reducible first | exact HB.out | apply below_alloc | apply pw_below_drewN | apply below_drew1 | refine below_set ?_ GE262.out | refine below_set ?_ GE263.out | refine below_set ?_ GE269.out | refine below_set ?_ GE275.out | refine below_set ?_ GE276.out) | exact HB.out)) hb)
                have n11_ := Aside0.mk (hbox)
                have n12_ := Aside0.mk ((by rw [hg]; exact (below_size (by repeat (first | (with_reducible first | exact HB.out | apply below_alloc | apply pw_below_drewN | apply below_drew1 | refine below_set ?_ GE262.out | refine below_set ?_ GE263.out | refine below_set ?_ GE269.out | refine below_set ?_ GE275.out | refine below_set ?_ GE276.out) | exact HB.out))) : w.heap.size ≤ gb313))
                have n13_ := Aside0.mk ((by rw [hg]; exact (below_size (by repeat (first | (with_reducible first | exact HB.out | apply below_alloc | apply pw_below_drewN | apply below_drew1 | refine below_set ?_ GE262.out | refine below_set ?_ GE263.out | refine below_set ?_ GE269.out | refine below_set ?_ GE275.out | refine below_set ?_ GE276.out) | exact HB.out))) : w.heap.size ≤ gb313))
                have n14_ := Aside0.mk ((by rw [hg]; exact Nat.ne_of_lt (blk_lt (g := gb262) (o := .cells #[.int .i64 a0_0, .slice A0_1 l0_1.length c0_1] 24 (0, 0)) (by (with_reducible repeat (first | refine blk_drewN ?_ _ | refine blk_drew ?_ | refine blk_alloc ?_ _)); exact BK262.out)) : gb262 ≠ gb313))
                have n15_ := Aside0.mk ((by rw [hg]; exact Nat.ne_of_gt (blk_lt (g := gb262) (o := .cells #[.int .i64 a0_0, .slice A0_1 l0_1.length c0_1] 24 (0, 0)) (by (with_reducible repeat (first | refine blk_drewN ?_ _ | refine blk_drew ?_ | refine blk_alloc ?_ _)); exact BK262.out)) : gb313 ≠ gb262))
                have n16_ := Aside0.mk ((by rw [hg]; exact Nat.ne_of_lt (blk_lt (g := gb263) (o := .cells #[.int .i64 a2_0, .int .i64 a2_1, .int .i64 a2_2] 41 (0, 0)) (by (with_reducible repeat (first | refine blk_drewN ?_ _ | refine blk_drew ?_ | refine blk_alloc ?_ _)); exact BK263.out)) : gb263 ≠ gb313))
                have n17_ := Aside0.mk ((by rw [hg]; exact Nat.ne_of_gt (blk_lt (g := gb263) (o := .cells #[.int .i64 a2_0, .int .i64 a2_1, .int .i64 a2_2] 41 (0, 0)) (by (with_reducible repeat (first | refine blk_drewN ?_ _ | refine blk_drew ?_ | refine blk_alloc ?_ _)); exact BK263.out)) : gb313 ≠ gb263))
                have n18_ := Aside0.mk ((by rw [hg]; exact Nat.ne_of_lt (blk_lt (g := gb269) (o := .cells #[.int .i64 t265, .slice Ao17 t266.length co17] 24 (0, 0)) (by (with_reducible repeat (first | refine blk_drewN ?_ _ | refine blk_drew ?_ | refine blk_alloc ?_ _)); exact BK269.out)) : gb269 ≠ gb313))
                have n19_ := Aside0.mk ((by rw [hg]; exact Nat.ne_of_gt (blk_lt (g := gb269) (o := .cells #[.int .i64 t265, .slice Ao17 t266.length co17] 24 (0, 0)) (by (with_reducible repeat (first | refine blk_drewN ?_ _ | refine blk_drew ?_ | refine blk_alloc ?_ _)); exact BK269.out)) : gb313 ≠ gb269))
                have n20_ := Aside0.mk ((by rw [hg]; exact Nat.ne_of_lt (blk_lt (g := gb275) (o := .cells #[.int .i64 t265, u276001] 24 (0, 0)) (by (with_reducible repeat (first | refine blk_drewN ?_ _ | refine blk_drew ?_ | refine blk_alloc ?_ _)); exact BK275.out)) : gb275 ≠ gb313))
                have n21_ := Aside0.mk ((by rw [hg]; exact Nat.ne_of_gt (blk_lt (g := gb275) (o := .cells #[.int .i64 t265, u276001] 24 (0, 0)) (by (with_reducible repeat (first | refine blk_drewN ?_ _ | refine blk_drew ?_ | refine blk_alloc ?_ _)); exact BK275.out)) : gb313 ≠ gb275))
                have n22_ := Aside0.mk ((by rw [hg]; exact Nat.ne_of_lt (blk_lt (g := gb276) (o := .cells #[.int .i64 t265, u277001] 24 (0, 0)) (by (with_reducible repeat (first | refine blk_drewN ?_ _ | refine blk_drew ?_ | refine blk_alloc ?_ _)); exact BK276.out)) : gb276 ≠ gb313))
                have n23_ := Aside0.mk ((by rw [hg]; exact Nat.ne_of_gt (blk_lt (g := gb276) (o := .cells #[.int .i64 t265, u277001] 24 (0, 0)) (by (with_reducible repeat (first | refine blk_drewN ?_ _ | refine blk_drew ?_ | refine blk_alloc ?_ _)); exact BK276.out)) : gb313 ≠ gb276))
                clear HO_270001
                clear HO_276001
                clear HO_277001
                clear HO302
                clear HO305
                clear BK262
                clear BK263
                clear BK269
                clear BK275
                clear BK276
                clear HB
                have HO_270001 := n0_
                have HO_276001 := n1_
                have HO_277001 := n2_
                have HO302 := n3_
                have HO305 := n4_
                have BK262 := n5_
                have BK263 := n6_
                have BK269 := n7_
                have BK275 := n8_
                have BK276 := n9_
                have HB := n10_
                have BK313 := n11_
                have GW313 := n12_
                have GE313 := n13_
                have NB262_313 := n14_
                have NB313_262 := n15_
                have NB263_313 := n16_
                have NB313_263 := n17_
                have NB269_313 := n18_
                have NB313_269 := n19_
                have NB275_313 := n20_
                have NB313_275 := n21_
                have NB276_313 := n22_
                have NB313_276 := n23_
                clear n0_ n1_ n2_ n3_ n4_ n5_ n6_ n7_ n8_ n9_ n10_ n11_ n12_ n13_ n14_ n15_ n16_ n17_ n18_ n19_ n20_ n21_ n22_ n23_
                clear hb hbox hg
                refine hK.out _ _ ⟨(blk_cell BK269.out 0).trans rfl, (blk_cell BK269.out 1).trans rfl, (blk_cell BK263.out 0).trans rfl, (blk_cell BK263.out 1).trans rfl, (blk_cell BK263.out 2).trans rfl⟩ (fun hHeld => ?_)
                clear hK K
                refine norm_ (a' := ?_) ?_ ?_
                rotate_left
                · show Act.put _ (some 17) _ = _
                  simp only [Act.put, List.setIfInBounds_toArray, List.set_cons_zero, List.set_cons_succ, i64_w, i32_w]
                  rfl
                exact norm_ (by first | (simp only [putAll, Act.put, List.setIfInBounds_toArray, List.set_cons_zero, List.set_cons_succ]; done) | (simp only [putAll, Act.put, List.setIfInBounds_toArray, List.set_cons_zero, List.set_cons_succ]; rfl)) (hJ5_7_11 (v301, (.slice Ao145 y303.length co145), gb313) _ ⟨hHeld, (by (with_reducible repeat (first | apply Kd.R_alloc | apply Kd.R_drewN | apply Kd.R_drew)); exact HO302.out), (by (with_reducible repeat (first | apply Kd.R_alloc | apply Kd.R_drewN | apply Kd.R_drew)); exact HO305.out), (by (with_reducible repeat (first | apply Kd.R_alloc | apply Kd.R_drewN | apply Kd.R_drew)); exact HO_270001.out), (by (with_reducible repeat (first | apply Kd.R_alloc | apply Kd.R_drewN | apply Kd.R_drew)); exact HO_276001.out), (by (with_reducible repeat (first | apply Kd.R_alloc | apply Kd.R_drewN | apply Kd.R_drew)); exact HO_277001.out), (by (with_reducible repeat (first | refine blk_drewN ?_ _ | refine blk_drew ?_ | refine blk_alloc ?_ _)); exact BK262.out), (by (with_reducible repeat (first | refine blk_drewN ?_ _ | refine blk_drew ?_ | refine blk_alloc ?_ _)); exact BK263.out), (by (with_reducible repeat (first | refine blk_drewN ?_ _ | refine blk_drew ?_ | refine blk_alloc ?_ _)); exact BK269.out), (by (with_reducible repeat (first | refine blk_drewN ?_ _ | refine blk_drew ?_ | refine blk_alloc ?_ _)); exact BK275.out), (by (with_reducible repeat (first | refine blk_drewN ?_ _ | refine blk_drew ?_ | refine blk_alloc ?_ _)); exact BK276.out), (by (with_reducible repeat (first | refine blk_drewN ?_ _ | refine blk_drew ?_ | refine blk_alloc ?_ _)); exact BK313.out), GW313.out, GE313.out, NB262_313.out, NB313_262.out, NB263_313.out, NB313_263.out, NB269_313.out, NB313_269.out, NB275_313.out, NB313_275.out, NB276_313.out, NB313_276.out, (by repeat (first | (with_reducible first | exact HB.out | apply below_alloc | apply pw_below_drewN | apply below_drew1 | refine below_set ?_ GE262.out | refine below_set ?_ GE263.out | refine below_set ?_ GE269.out | refine below_set ?_ GE275.out | refine below_set ?_ GE276.out | refine below_set ?_ GE313.out) | exact HB.out))⟩)
          · skip
            rintro ⟨v301, v304, gb313⟩ w144 ⟨hS_, h0_, h1_, h2_, h3_, h4_, h5_, h6_, h7_, h8_, h9_, h10_, h11_, h12_, h13_, h14_, h15_, h16_, h17_, h18_, h19_, h20_, h21_, h22_, h23_⟩
            have n0_ : Aside0 (Kd.R k41 41 w144 w.heap.size (fun k_ => some k_ ≠ (v304 : Value).ownBlock ∧ some k_ ≠ (.slice Ao17 t266.length co17 : Value).ownBlock ∧ some k_ ≠ (u276001 : Value).ownBlock ∧ some k_ ≠ (u277001 : Value).ownBlock ∧ k_ ≠ gb263) v301 y300) := ⟨h0_⟩
            have n1_ : Aside0 (Kd.R k41 41 w144 w.heap.size (fun k_ => some k_ ≠ (v301 : Value).ownBlock ∧ some k_ ≠ (.slice Ao17 t266.length co17 : Value).ownBlock ∧ some k_ ≠ (u276001 : Value).ownBlock ∧ some k_ ≠ (u277001 : Value).ownBlock ∧ k_ ≠ gb263) v304 y303) := ⟨h1_⟩
            have n2_ : Aside0 (Kd.R k41 41 w144 w.heap.size (fun k_ => some k_ ≠ (v301 : Value).ownBlock ∧ some k_ ≠ (v304 : Value).ownBlock ∧ some k_ ≠ (u276001 : Value).ownBlock ∧ some k_ ≠ (u277001 : Value).ownBlock ∧ k_ ≠ gb263) (.slice Ao17 t266.length co17) t266) := ⟨h2_⟩
            have n3_ : Aside0 (Kd.R k41 41 w144 w.heap.size (fun k_ => some k_ ≠ (v301 : Value).ownBlock ∧ some k_ ≠ (v304 : Value).ownBlock ∧ some k_ ≠ (.slice Ao17 t266.length co17 : Value).ownBlock ∧ some k_ ≠ (u277001 : Value).ownBlock ∧ k_ ≠ gb263) u276001 x276001_1) := ⟨h3_⟩
            have n4_ : Aside0 (Kd.R k41 41 w144 w.heap.size (fun k_ => some k_ ≠ (v301 : Value).ownBlock ∧ some k_ ≠ (v304 : Value).ownBlock ∧ some k_ ≠ (.slice Ao17 t266.length co17 : Value).ownBlock ∧ some k_ ≠ (u276001 : Value).ownBlock ∧ k_ ≠ gb263) u277001 x277001_1) := ⟨h4_⟩
            have n5_ : Aside0 (w144.heap[gb262]? = some (.cells #[.int .i64 a0_0, .slice A0_1 l0_1.length c0_1] 24 (0, 0))) := ⟨h5_⟩
            have n6_ : Aside0 (w144.heap[gb263]? = some (.cells #[.int .i64 a2_0, .int .i64 a2_1, .int .i64 a2_2] 41 (0, 0))) := ⟨h6_⟩
            have n7_ : Aside0 (w144.heap[gb269]? = some (.cells #[.int .i64 t265, .slice Ao17 t266.length co17] 24 (0, 0))) := ⟨h7_⟩
            have n8_ : Aside0 (w144.heap[gb275]? = some (.cells #[.int .i64 t265, u276001] 24 (0, 0))) := ⟨h8_⟩
            have n9_ : Aside0 (w144.heap[gb276]? = some (.cells #[.int .i64 t265, u277001] 24 (0, 0))) := ⟨h9_⟩
            have n10_ : Aside0 (w144.heap[gb313]? = some (.cells #[.int .i64 0, .slice none 0 0] 24 (0, 0))) := ⟨h10_⟩
            have n11_ : Aside0 (w.heap.size ≤ gb313) := ⟨h11_⟩
            have n12_ : Aside0 (w.heap.size ≤ gb313) := ⟨h12_⟩
            have n13_ : Aside0 (gb262 ≠ gb313) := ⟨h13_⟩
            have n14_ : Aside0 (gb313 ≠ gb262) := ⟨h14_⟩
            have n15_ : Aside0 (gb263 ≠ gb313) := ⟨h15_⟩
            have n16_ : Aside0 (gb313 ≠ gb263) := ⟨h16_⟩
            have n17_ : Aside0 (gb269 ≠ gb313) := ⟨h17_⟩
            have n18_ : Aside0 (gb313 ≠ gb269) := ⟨h18_⟩
            have n19_ : Aside0 (gb275 ≠ gb313) := ⟨h19_⟩
            have n20_ : Aside0 (gb313 ≠ gb275) := ⟨h20_⟩
            have n21_ : Aside0 (gb276 ≠ gb313) := ⟨h21_⟩
            have n22_ : Aside0 (gb313 ≠ gb276) := ⟨h22_⟩
            have n23_ : Aside0 (Below w.heap.size w w144) := ⟨h23_⟩
            clear HO_270001
            clear HO_276001
            clear HO_277001
            clear BK262
            clear BK263
            clear BK269
            clear BK275
            clear BK276
            clear HB
            clear h0_ h1_ h2_ h3_ h4_ h5_ h6_ h7_ h8_ h9_ h10_ h11_ h12_ h13_ h14_ h15_ h16_ h17_ h18_ h19_ h20_ h21_ h22_ h23_
            have HO302 := n0_
            have HO305 := n1_
            have HO_270001 := n2_
            have HO_276001 := n3_
            have HO_277001 := n4_
            have BK262 := n5_
            have BK263 := n6_
            have BK269 := n7_
            have BK275 := n8_
            have BK276 := n9_
            have BK313 := n10_
            have GW313 := n11_
            have GE313 := n12_
            have NB262_313 := n13_
            have NB313_262 := n14_
            have NB263_313 := n15_
            have NB313_263 := n16_
            have NB269_313 := n17_
            have NB313_269 := n18_
            have NB275_313 := n19_
            have NB313_275 := n20_
            have NB276_313 := n21_
            have NB313_276 := n22_
            have HB := n23_
            clear n0_ n1_ n2_ n3_ n4_ n5_ n6_ n7_ n8_ n9_ n10_ n11_ n12_ n13_ n14_ n15_ n16_ n17_ n18_ n19_ n20_ n21_ n22_ n23_
            have hHeld : w144.cell? ⟨gb269, 0, none⟩ = some (.int .i64 t265) ∧ w144.cell? ⟨gb269, 1, none⟩ = some (.slice Ao17 t266.length co17) ∧ w144.cell? ⟨gb263, 0, none⟩ = some (.int .i64 a2_0) ∧ w144.cell? ⟨gb263, 1, none⟩ = some (.int .i64 a2_1) ∧ w144.cell? ⟨gb263, 2, none⟩ = some (.int .i64 a2_2) := hS_
            obtain ⟨Ao146, co146, eo146⟩ := Kd.R_slice HO305.out
            (first | subst eo146 | (injection eo146 with f1_ f2_ f3_; have f4_ := f1_.symm; have f5_ := f3_.symm; clear f1_ f2_ f3_; subst f4_; subst f5_))
            refine norm_ (a' := ?_) ?_ ?_
            rotate_left
            · simp only [putAll, Act.put, List.setIfInBounds_toArray, List.set_cons_zero, List.set_cons_succ]
              rfl
            refine one_ (i := 8) (N := some 91) #[true, true, true, true, true, true, true, true, true, false, false, true, false] rfl rfl (one_of HT_.out (by kernel_rfl)) (by decide) (fun K hK => ?_)
            refine Kd.R_append_rows_step k41 (w0 := w) w.heap.size (by rfl) (.tmp 88) (.tmp 90) 22 41 (.agg #[(.int .i64 0), (.int .i64 0), (.int .i64 0)]) 24 rfl Try.underlying22 info41 rfl (by decide) (by omega) v301 y300 y303 _ _ _ (fun k_ => some k_ ≠ (.slice Ao17 t266.length co17 : Value).ownBlock ∧ some k_ ≠ (u276001 : Value).ownBlock ∧ some k_ ≠ (u277001 : Value).ownBlock ∧ some k_ ≠ (.slice Ao146 y303.length co146 : Value).ownBlock ∧ k_ ≠ gb263) (fun _ => False) rfl rfl ?aO ?aR (fun _ _ h => h) (fun _ h => h.elim) ?aF ?aB ?aS ?aL ?_
            (case aR => repeat (first | exact (Kd.R_reads' HO305.out).2.2 | (with_reducible refine Kd.C_alloc ?_ _) | (with_reducible refine Kd.C_drewN ?_ _) | (with_reducible refine Kd.C_drew ?_)))
            (case aB => exact (by repeat (first | (with_reducible first | exact HB.out | apply below_alloc | apply pw_below_drewN | apply below_drew1 | refine below_set ?_ GE262.out | refine below_set ?_ GE263.out | refine below_set ?_ GE269.out | refine below_set ?_ GE275.out | refine below_set ?_ GE276.out | refine below_set ?_ GE313.out) | exact HB.out)))
            (case aF => exact (fun k_ hk => ⟨Kd.fresh' (Kd.R_lt (by (with_reducible repeat (first | apply Kd.R_alloc | apply Kd.R_drewN | apply Kd.R_drew)); exact HO_270001.out)) k_ hk, Kd.fresh' (Kd.R_lt (by (with_reducible repeat (first | apply Kd.R_alloc | apply Kd.R_drewN | apply Kd.R_drew)); exact HO_276001.out)) k_ hk, Kd.fresh' (Kd.R_lt (by (with_reducible repeat (first | apply Kd.R_alloc | apply Kd.R_drewN | apply Kd.R_drew)); exact HO_277001.out)) k_ hk, Kd.fresh' (Kd.R_lt (by (with_reducible repeat (first | apply Kd.R_alloc | apply Kd.R_drewN | apply Kd.R_drew)); exact HO305.out)) k_ hk, Kd.freshB (g := gb263) (o := .cells #[.int .i64 a2_0, .int .i64 a2_1, .int .i64 a2_2] 41 (0, 0)) (by (with_reducible repeat (first | refine blk_drewN ?_ _ | refine blk_drew ?_ | refine blk_alloc ?_ _)); exact BK263.out) k_ hk⟩))
            (case aO => exact (by (with_reducible repeat (first | apply Kd.R_alloc | apply Kd.R_drewN | apply Kd.R_drew)); exact Kd.R_mono HO302.out (fun _ hk => ⟨hk.2.1, ⟨hk.2.2.1, ⟨hk.2.2.2.1, ⟨hk.1, hk.2.2.2.2⟩⟩⟩⟩)))
            (case aS => exact (below_size (by repeat (first | (with_reducible first | exact HB.out | apply below_alloc | apply pw_below_drewN | apply below_drew1 | refine below_set ?_ GE262.out | refine below_set ?_ GE263.out | refine below_set ?_ GE269.out | refine below_set ?_ GE275.out | refine below_set ?_ GE276.out | refine below_set ?_ GE313.out) | exact HB.out))))
            (case aL => have := LMc122.out; omega)
            intro v307 w145 ho hb hg hat
            rw [← Ny306.out] at ho
            have n0_ := Aside0.mk (Kd.R_after (ok := (fun k_ => some k_ ≠ (u276001 : Value).ownBlock ∧ some k_ ≠ (u277001 : Value).ownBlock ∧ some k_ ≠ (.slice Ao146 y303.length co146 : Value).ownBlock ∧ k_ ≠ gb263)) (by (with_reducible repeat (first | apply Kd.R_alloc | apply Kd.R_drewN | apply Kd.R_drew)); exact Kd.R_mono HO_270001.out (fun _ hk => ⟨⟨hk.2.2.1, ⟨hk.2.2.2.1, ⟨hk.2.1, hk.2.2.2.2⟩⟩⟩, hk.1⟩)) hg hat)
            have n1_ := Aside0.mk (Kd.R_after (ok := (fun k_ => some k_ ≠ (.slice Ao17 t266.length co17 : Value).ownBlock ∧ some k_ ≠ (u277001 : Value).ownBlock ∧ some k_ ≠ (.slice Ao146 y303.length co146 : Value).ownBlock ∧ k_ ≠ gb263)) (by (with_reducible repeat (first | apply Kd.R_alloc | apply Kd.R_drewN | apply Kd.R_drew)); exact Kd.R_mono HO_276001.out (fun _ hk => ⟨⟨hk.2.2.1, ⟨hk.2.2.2.1, ⟨hk.2.1, hk.2.2.2.2⟩⟩⟩, hk.1⟩)) hg hat)
            have n2_ := Aside0.mk (Kd.R_after (ok := (fun k_ => some k_ ≠ (.slice Ao17 t266.length co17 : Value).ownBlock ∧ some k_ ≠ (u276001 : Value).ownBlock ∧ some k_ ≠ (.slice Ao146 y303.length co146 : Value).ownBlock ∧ k_ ≠ gb263)) (by (with_reducible repeat (first | apply Kd.R_alloc | apply Kd.R_drewN | apply Kd.R_drew)); exact Kd.R_mono HO_277001.out (fun _ hk => ⟨⟨hk.2.2.1, ⟨hk.2.2.2.1, ⟨hk.2.1, hk.2.2.2.2⟩⟩⟩, hk.1⟩)) hg hat)
            have n3_ := Aside0.mk (blk_grown (g := gb262) (o := .cells #[.int .i64 a0_0, .slice A0_1 l0_1.length c0_1] 24 (0, 0)) (by (with_reducible repeat (first | refine blk_drewN ?_ _ | refine blk_drew ?_ | refine blk_alloc ?_ _)); exact BK262.out) hg (Kd.R_ne HO302.out BK262.out (by decide)))
            have n4_ := Aside0.mk (blk_grown (g := gb263) (o := .cells #[.int .i64 a2_0, .int .i64 a2_1, .int .i64 a2_2] 41 (0, 0)) (by (with_reducible repeat (first | refine blk_drewN ?_ _ | refine blk_drew ?_ | refine blk_alloc ?_ _)); exact BK263.out) hg (Kd.R_away HO302.out (fun _ hk => hk.2.2.2.2)))
            have n5_ := Aside0.mk (blk_grown (g := gb269) (o := .cells #[.int .i64 t265, .slice Ao17 t266.length co17] 24 (0, 0)) (by (with_reducible repeat (first | refine blk_drewN ?_ _ | refine blk_drew ?_ | refine blk_alloc ?_ _)); exact BK269.out) hg (Kd.R_ne HO302.out BK269.out (by decide)))
            have n6_ := Aside0.mk (blk_grown (g := gb275) (o := .cells #[.int .i64 t265, u276001] 24 (0, 0)) (by (with_reducible repeat (first | refine blk_drewN ?_ _ | refine blk_drew ?_ | refine blk_alloc ?_ _)); exact BK275.out) hg (Kd.R_ne HO302.out BK275.out (by decide)))
            have n7_ := Aside0.mk (blk_grown (g := gb276) (o := .cells #[.int .i64 t265, u277001] 24 (0, 0)) (by (with_reducible repeat (first | refine blk_drewN ?_ _ | refine blk_drew ?_ | refine blk_alloc ?_ _)); exact BK276.out) hg (Kd.R_ne HO302.out BK276.out (by decide)))
            have n8_ := Aside0.mk (Kd.R_after (ok := (fun k_ => some k_ ≠ (.slice Ao17 t266.length co17 : Value).ownBlock ∧ some k_ ≠ (u276001 : Value).ownBlock ∧ some k_ ≠ (u277001 : Value).ownBlock ∧ k_ ≠ gb263)) (by (with_reducible repeat (first | apply Kd.R_alloc | apply Kd.R_drewN | apply Kd.R_drew)); exact Kd.R_mono HO305.out (fun _ hk => ⟨⟨hk.2.1, ⟨hk.2.2.1, ⟨hk.2.2.2.1, hk.2.2.2.2⟩⟩⟩, hk.1⟩)) hg hat)
            have n9_ := Aside0.mk (blk_grown (g := gb313) (o := .cells #[.int .i64 0, .slice none 0 0] 24 (0, 0)) (by (with_reducible repeat (first | refine blk_drewN ?_ _ | refine blk_drew ?_ | refine blk_alloc ?_ _)); exact BK313.out) hg (Kd.R_ne HO302.out BK313.out (by decide)))
            have n10_ := Aside0.mk (hb)
            have n11_ := Aside0.mk (ho)
            clear HO_270001
            clear HO_276001
            clear HO_277001
            clear BK262
            clear BK263
            clear BK269
            clear BK275
            clear BK276
            clear HO305
            clear BK313
            clear HB
            clear HO302
            have HO_270001 := n0_
            have HO_276001 := n1_
            have HO_277001 := n2_
            have BK262 := n3_
            have BK263 := n4_
            have BK269 := n5_
            have BK275 := n6_
            have BK276 := n7_
            have HO305 := n8_
            have BK313 := n9_
            have HB := n10_
            have HO308 := n11_
            clear n0_ n1_ n2_ n3_ n4_ n5_ n6_ n7_ n8_ n9_ n10_ n11_
            clear ho hb hg hat
            obtain ⟨Ao147, co147, eo147⟩ := Kd.R_slice HO308.out
            (first | subst eo147 | (injection eo147 with f1_ f2_ f3_; have f4_ := f1_.symm; have f5_ := f3_.symm; clear f1_ f2_ f3_; subst f4_; subst f5_))
            refine hK.out _ _ ⟨(blk_cell BK269.out 0).trans rfl, (blk_cell BK269.out 1).trans rfl, (blk_cell BK263.out 0).trans rfl, (blk_cell BK263.out 1).trans rfl, (blk_cell BK263.out 2).trans rfl⟩ (fun hHeld => ?_)
            clear hK K
            refine norm_ (a' := ?_) ?_ ?_
            rotate_left
            · show Act.put _ (some 91) _ = _
              simp only [Act.put, List.setIfInBounds_toArray, List.set_cons_zero, List.set_cons_succ, i64_w, i32_w]
              rfl
            refine pure_ (i := 9) (N := some 92) (v := ?_) (a' := ?_) #[true, true, true, true, true, true, true, true, true, true, false, true, false] rfl rfl (any_of HT_.out (by kernel_rfl)) (fun _ _ _ h => hPan_ _ _ _ _ _ h) (Or.inl ⟨by rfl, ?_⟩) ?_ ?_
            rotate_left
            · intro w'
              go_simp
              with_reducible rfl
            rotate_left
            · simp only [Act.put, List.setIfInBounds_toArray, List.set_cons_zero, List.set_cons_succ, i64_w, i32_w]
              rfl
            exact norm_ (by first | (simp only [putAll, Act.put, List.setIfInBounds_toArray, List.set_cons_zero, List.set_cons_succ]; done) | (simp only [putAll, Act.put, List.setIfInBounds_toArray, List.set_cons_zero, List.set_cons_succ]; rfl)) (hJ5_7_8_11 (v301, .slice Ao146 y303.length co146, .slice Ao147 y306.length co147, gb313) _ ⟨hHeld, (by (with_reducible repeat (first | apply Kd.R_alloc | apply Kd.R_drewN | apply Kd.R_drew)); exact Kd.R_mono HO305.out (fun _ hk => ⟨hk.2, ⟨hk.1.1, ⟨hk.1.2.1, ⟨hk.1.2.2.1, hk.1.2.2.2⟩⟩⟩⟩)), (by (with_reducible repeat (first | apply Kd.R_alloc | apply Kd.R_drewN | apply Kd.R_drew)); exact Kd.R_mono HO308.out (fun _ hk => ⟨hk.2.2.2.1, ⟨hk.1, ⟨hk.2.1, ⟨hk.2.2.1, hk.2.2.2.2⟩⟩⟩⟩)), (by (with_reducible repeat (first | apply Kd.R_alloc | apply Kd.R_drewN | apply Kd.R_drew)); exact Kd.R_mono HO_270001.out (fun _ hk => ⟨hk.1.2.2.1, ⟨hk.2, ⟨hk.1.1, ⟨hk.1.2.1, hk.1.2.2.2⟩⟩⟩⟩)), (by (with_reducible repeat (first | apply Kd.R_alloc | apply Kd.R_drewN | apply Kd.R_drew)); exact Kd.R_mono HO_276001.out (fun _ hk => ⟨hk.1.2.2.1, ⟨hk.2, ⟨hk.1.1, ⟨hk.1.2.1, hk.1.2.2.2⟩⟩⟩⟩)), (by (with_reducible repeat (first | apply Kd.R_alloc | apply Kd.R_drewN | apply Kd.R_drew)); exact Kd.R_mono HO_277001.out (fun _ hk => ⟨hk.1.2.2.1, ⟨hk.2, ⟨hk.1.1, ⟨hk.1.2.1, hk.1.2.2.2⟩⟩⟩⟩)), (by (with_reducible repeat (first | refine blk_drewN ?_ _ | refine blk_drew ?_ | refine blk_alloc ?_ _)); exact BK262.out), (by (with_reducible repeat (first | refine blk_drewN ?_ _ | refine blk_drew ?_ | refine blk_alloc ?_ _)); exact BK263.out), (by (with_reducible repeat (first | refine blk_drewN ?_ _ | refine blk_drew ?_ | refine blk_alloc ?_ _)); exact BK269.out), (by (with_reducible repeat (first | refine blk_drewN ?_ _ | refine blk_drew ?_ | refine blk_alloc ?_ _)); exact BK275.out), (by (with_reducible repeat (first | refine blk_drewN ?_ _ | refine blk_drew ?_ | refine blk_alloc ?_ _)); exact BK276.out), (by (with_reducible repeat (first | refine blk_drewN ?_ _ | refine blk_drew ?_ | refine blk_alloc ?_ _)); exact BK313.out), GW313.out, GE313.out, NB262_313.out, NB313_262.out, NB263_313.out, NB313_263.out, NB269_313.out, NB313_269.out, NB275_313.out, NB313_275.out, NB276_313.out, NB313_276.out, (by repeat (first | (with_reducible first | exact HB.out | apply below_alloc | apply pw_below_drewN | apply below_drew1 | refine below_set ?_ GE262.out | refine below_set ?_ GE263.out | refine below_set ?_ GE269.out | refine below_set ?_ GE275.out | refine below_set ?_ GE276.out | refine below_set ?_ GE313.out) | exact HB.out))⟩)
        · skip
          rintro ⟨v301, v304, v307⟩ w146 ⟨hS_, h0_, h1_, h2_, h3_, h4_, h5_, h6_, h7_, h8_, h9_, h10_⟩
          have n0_ : Aside0 (Kd.R k41 41 w146 w.heap.size (fun k_ => some k_ ≠ (v307 : Value).ownBlock ∧ some k_ ≠ (.slice Ao17 t266.length co17 : Value).ownBlock ∧ some k_ ≠ (u276001 : Value).ownBlock ∧ some k_ ≠ (u277001 : Value).ownBlock ∧ k_ ≠ gb263) v304 y303) := ⟨h0_⟩
          have n1_ : Aside0 (Kd.R k41 41 w146 w.heap.size (fun k_ => some k_ ≠ (v304 : Value).ownBlock ∧ some k_ ≠ (.slice Ao17 t266.length co17 : Value).ownBlock ∧ some k_ ≠ (u276001 : Value).ownBlock ∧ some k_ ≠ (u277001 : Value).ownBlock ∧ k_ ≠ gb263) v307 y306) := ⟨h1_⟩
          have n2_ : Aside0 (Kd.R k41 41 w146 w.heap.size (fun k_ => some k_ ≠ (v304 : Value).ownBlock ∧ some k_ ≠ (v307 : Value).ownBlock ∧ some k_ ≠ (u276001 : Value).ownBlock ∧ some k_ ≠ (u277001 : Value).ownBlock ∧ k_ ≠ gb263) (.slice Ao17 t266.length co17) t266) := ⟨h2_⟩
          have n3_ : Aside0 (Kd.R k41 41 w146 w.heap.size (fun k_ => some k_ ≠ (v304 : Value).ownBlock ∧ some k_ ≠ (v307 : Value).ownBlock ∧ some k_ ≠ (.slice Ao17 t266.length co17 : Value).ownBlock ∧ some k_ ≠ (u277001 : Value).ownBlock ∧ k_ ≠ gb263) u276001 x276001_1) := ⟨h3_⟩
          have n4_ : Aside0 (Kd.R k41 41 w146 w.heap.size (fun k_ => some k_ ≠ (v304 : Value).ownBlock ∧ some k_ ≠ (v307 : Value).ownBlock ∧ some k_ ≠ (.slice Ao17 t266.length co17 : Value).ownBlock ∧ some k_ ≠ (u276001 : Value).ownBlock ∧ k_ ≠ gb263) u277001 x277001_1) := ⟨h4_⟩
          have n5_ : Aside0 (w146.heap[gb262]? = some (.cells #[.int .i64 a0_0, .slice A0_1 l0_1.length c0_1] 24 (0, 0))) := ⟨h5_⟩
          have n6_ : Aside0 (w146.heap[gb263]? = some (.cells #[.int .i64 a2_0, .int .i64 a2_1, .int .i64 a2_2] 41 (0, 0))) := ⟨h6_⟩
          have n7_ : Aside0 (w146.heap[gb269]? = some (.cells #[.int .i64 t265, .slice Ao17 t266.length co17] 24 (0, 0))) := ⟨h7_⟩
          have n8_ : Aside0 (w146.heap[gb275]? = some (.cells #[.int .i64 t265, u276001] 24 (0, 0))) := ⟨h8_⟩
          have n9_ : Aside0 (w146.heap[gb276]? = some (.cells #[.int .i64 t265, u277001] 24 (0, 0))) := ⟨h9_⟩
          have n10_ : Aside0 (Below w.heap.size w w146) := ⟨h10_⟩
          clear HO_270001
          clear HO_276001
          clear HO_277001
          clear BK262
          clear BK263
          clear BK269
          clear BK275
          clear BK276
          clear HB
          clear h0_ h1_ h2_ h3_ h4_ h5_ h6_ h7_ h8_ h9_ h10_
          have HO305 := n0_
          have HO308 := n1_
          have HO_270001 := n2_
          have HO_276001 := n3_
          have HO_277001 := n4_
          have BK262 := n5_
          have BK263 := n6_
          have BK269 := n7_
          have BK275 := n8_
          have BK276 := n9_
          have HB := n10_
          clear n0_ n1_ n2_ n3_ n4_ n5_ n6_ n7_ n8_ n9_ n10_
          have hHeld : w146.cell? ⟨gb269, 0, none⟩ = some (.int .i64 t265) ∧ w146.cell? ⟨gb269, 1, none⟩ = some (.slice Ao17 t266.length co17) ∧ w146.cell? ⟨gb263, 0, none⟩ = some (.int .i64 a2_0) ∧ w146.cell? ⟨gb263, 1, none⟩ = some (.int .i64 a2_1) ∧ w146.cell? ⟨gb263, 2, none⟩ = some (.int .i64 a2_2) := hS_
          obtain ⟨Ao147, co147, eo147⟩ := Kd.R_slice HO308.out
          (first | subst eo147 | (injection eo147 with f1_ f2_ f3_; have f4_ := f1_.symm; have f5_ := f3_.symm; clear f1_ f2_ f3_; subst f4_; subst f5_))
          refine norm_ (a' := ?_) ?_ ?_
          rotate_left
          · simp only [putAll, Act.put, List.setIfInBounds_toArray, List.set_cons_zero, List.set_cons_succ]
            rfl
          refine two_ (i := 10) (j := 11) (Ni := some 93) (Nj := some 17) #[true, true, true, true, true, true, true, true, true, true, true, false, false] #[true, true, true, true, true, true, true, true, true, true, false, true, false] rfl rfl rfl rfl (two_of HT_.out (by kernel_rfl)) (by decide) (by decide) (fun K hK => ?_) (fun K hK => ?_)
          · skip
            refine goes_ Try.func30 (by kernel_rfl) rfl #[.agg #[.int .i64 (wrap64 (t265 - 2)), .slice Ao147 y306.length co147]] (by rfl) rfl rfl (by (try simp only [List.map_toArray, List.map_cons, List.map_nil]); first | done | rfl | (simp only [List.length_drop, List.length_take]; rfl)) ?_
            with_reducible refine (billetlaw05_Fit.calls k1 (wrap64 (t265 - 2)) _ _ y306 t309 t310 _ ?side1 ?side2 A123.out).mono ?_
            (case side1 => repeat (first | exact (Kd.R_reads' HO308.out).2.2 | (with_reducible refine Kd.C_alloc ?_ _) | (with_reducible refine Kd.C_drewN ?_ _) | (with_reducible refine Kd.C_drew ?_)))
            (case side2 => exact (Kd.R_reads' HO308.out).2.1)
            rintro e w148 ⟨v311, rfl, ho0, hb⟩
            refine ⟨_, rfl, ?_⟩
            have n0_ := Aside0.mk (Kd.R_elder' (by (with_reducible repeat (first | apply Kd.R_alloc | apply Kd.R_drewN | apply Kd.R_drew)); exact HO_270001.out) (Kd.R_base ho0) hb)
            have n1_ := Aside0.mk (Kd.R_elder' (by (with_reducible repeat (first | apply Kd.R_alloc | apply Kd.R_drewN | apply Kd.R_drew)); exact HO_276001.out) (Kd.R_base ho0) hb)
            have n2_ := Aside0.mk (Kd.R_elder' (by (with_reducible repeat (first | apply Kd.R_alloc | apply Kd.R_drewN | apply Kd.R_drew)); exact HO_277001.out) (Kd.R_base ho0) hb)
            have n3_ := Aside0.mk (Kd.R_elder' (by (with_reducible repeat (first | apply Kd.R_alloc | apply Kd.R_drewN | apply Kd.R_drew)); exact HO305.out) (Kd.R_base ho0) hb)
            have n4_ := Aside0.mk (Kd.R_elder' (by (with_reducible repeat (first | apply Kd.R_alloc | apply Kd.R_drewN | apply Kd.R_drew)); exact HO308.out) (Kd.R_base ho0) hb)
            have n5_ := Aside0.mk (Kd.R_lower (Kd.R_newB (Kd.R_new' (Kd.R_new' (Kd.R_new' (Kd.R_new' (Kd.R_new' ho0 (Kd.R_lt (by (with_reducible repeat (first | apply Kd.R_alloc | apply Kd.R_drewN | apply Kd.R_drew)); exact HO_270001.out))) (Kd.R_lt (by (with_reducible repeat (first | apply Kd.R_alloc | apply Kd.R_drewN | apply Kd.R_drew)); exact HO_276001.out))) (Kd.R_lt (by (with_reducible repeat (first | apply Kd.R_alloc | apply Kd.R_drewN | apply Kd.R_drew)); exact HO_277001.out))) (Kd.R_lt (by (with_reducible repeat (first | apply Kd.R_alloc | apply Kd.R_drewN | apply Kd.R_drew)); exact HO305.out))) (Kd.R_lt (by (with_reducible repeat (first | apply Kd.R_alloc | apply Kd.R_drewN | apply Kd.R_drew)); exact HO308.out))) (g := gb263) (o := .cells #[.int .i64 a2_0, .int .i64 a2_1, .int .i64 a2_2] 41 (0, 0)) (by (with_reducible repeat (first | refine blk_drewN ?_ _ | refine blk_drew ?_ | refine blk_alloc ?_ _)); exact BK263.out)) (below_size (by repeat (first | (with_reducible first | exact HB.out | apply below_alloc | apply pw_below_drewN | apply below_drew1 | refine below_set ?_ GE262.out | refine below_set ?_ GE263.out | refine below_set ?_ GE269.out | refine below_set ?_ GE275.out | refine below_set ?_ GE276.out) | exact HB.out))))
            have n6_ := Aside0.mk (blk_below (g := gb262) (o := .cells #[.int .i64 a0_0, .slice A0_1 l0_1.length c0_1] 24 (0, 0)) (by (with_reducible repeat (first | refine blk_drewN ?_ _ | refine blk_drew ?_ | refine blk_alloc ?_ _)); exact BK262.out) hb)
            have n7_ := Aside0.mk (blk_below (g := gb263) (o := .cells #[.int .i64 a2_0, .int .i64 a2_1, .int .i64 a2_2] 41 (0, 0)) (by (with_reducible repeat (first | refine blk_drewN ?_ _ | refine blk_drew ?_ | refine blk_alloc ?_ _)); exact BK263.out) hb)
            have n8_ := Aside0.mk (blk_below (g := gb269) (o := .cells #[.int .i64 t265, .slice Ao17 t266.length co17] 24 (0, 0)) (by (with_reducible repeat (first | refine blk_drewN ?_ _ | refine blk_drew ?_ | refine blk_alloc ?_ _)); exact BK269.out) hb)
            have n9_ := Aside0.mk (blk_below (g := gb275) (o := .cells #[.int .i64 t265, u276001] 24 (0, 0)) (by (with_reducible repeat (first | refine blk_drewN ?_ _ | refine blk_drew ?_ | refine blk_alloc ?_ _)); exact BK275.out) hb)
            have n10_ := Aside0.mk (blk_below (g := gb276) (o := .cells #[.int .i64 t265, u277001] 24 (0, 0)) (by (with_reducible repeat (first | refine blk_drewN ?_ _ | refine blk_drew ?_ | refine blk_alloc ?_ _)); exact BK276.out) hb)
            have n11_ := Aside0.mk (below_step (by repeat (first | (with_reducible first | exact HB.out | apply below_alloc | apply pw_below_drewN | apply below_drew1 | refine below_set ?_ GE262.out | refine below_set ?_ GE263.out | refine below_set ?_ GE269.out | refine below_set ?_ GE275.out | refine below_set ?_ GE276.out) | exact HB.out)) hb)
            clear HO_270001
            clear HO_276001
            clear HO_277001
            clear HO305
            clear HO308
            clear BK262
            clear BK263
            clear BK269
            clear BK275
            clear BK276
            clear HB
            have HO_270001 := n0_
            have HO_276001 := n1_
            have HO_277001 := n2_
            have HO305 := n3_
            have HO308 := n4_
            have HO312 := n5_
            have BK262 := n6_
            have BK263 := n7_
            have BK269 := n8_
            have BK275 := n9_
            have BK276 := n10_
            have HB := n11_
            clear n0_ n1_ n2_ n3_ n4_ n5_ n6_ n7_ n8_ n9_ n10_ n11_
            (try clear hb)
            (try clear hb2)
            (try clear hk)
            (try clear hi)
            (try clear ho0)
            refine hK.out _ _ ⟨(blk_cell BK269.out 0).trans rfl, (blk_cell BK269.out 1).trans rfl, (blk_cell BK263.out 0).trans rfl, (blk_cell BK263.out 1).trans rfl, (blk_cell BK263.out 2).trans rfl⟩ (fun hHeld => ?_)
            clear hK K
            refine norm_ (a' := ?_) ?_ ?_
            rotate_left
            · show Act.put _ (some 93) _ = _
              simp only [Act.put, List.setIfInBounds_toArray, List.set_cons_zero, List.set_cons_succ, i64_w, i32_w]
              rfl
            exact norm_ (by first | (simp only [putAll, Act.put, List.setIfInBounds_toArray, List.set_cons_zero, List.set_cons_succ]; done) | (simp only [putAll, Act.put, List.setIfInBounds_toArray, List.set_cons_zero, List.set_cons_succ]; rfl)) (hJ5_7_8_10 (v301, v304, .slice Ao147 y306.length co147, v311) _ ⟨hHeld, (by (with_reducible repeat (first | apply Kd.R_alloc | apply Kd.R_drewN | apply Kd.R_drew)); exact Kd.R_mono HO305.out (fun _ hk => ⟨hk.1.1, ⟨hk.2, ⟨hk.1.2.1, ⟨hk.1.2.2.1, ⟨hk.1.2.2.2.1, hk.1.2.2.2.2⟩⟩⟩⟩⟩)), (by (with_reducible repeat (first | apply Kd.R_alloc | apply Kd.R_drewN | apply Kd.R_drew)); exact Kd.R_mono HO308.out (fun _ hk => ⟨hk.1.1, ⟨hk.2, ⟨hk.1.2.1, ⟨hk.1.2.2.1, ⟨hk.1.2.2.2.1, hk.1.2.2.2.2⟩⟩⟩⟩⟩)), (by (with_reducible repeat (first | apply Kd.R_alloc | apply Kd.R_drewN | apply Kd.R_drew)); exact Kd.R_mono HO312.out (fun _ hk => ⟨hk.1.1.2, ⟨hk.1.2, ⟨hk.1.1.1.1.1.2, ⟨hk.1.1.1.1.2, ⟨hk.1.1.1.2, hk.2⟩⟩⟩⟩⟩)), (by (with_reducible repeat (first | apply Kd.R_alloc | apply Kd.R_drewN | apply Kd.R_drew)); exact Kd.R_mono HO_270001.out (fun _ hk => ⟨hk.1.1, ⟨hk.1.2.1, ⟨hk.2, ⟨hk.1.2.2.1, ⟨hk.1.2.2.2.1, hk.1.2.2.2.2⟩⟩⟩⟩⟩)), (by (with_reducible repeat (first | apply Kd.R_alloc | apply Kd.R_drewN | apply Kd.R_drew)); exact Kd.R_mono HO_276001.out (fun _ hk => ⟨hk.1.1, ⟨hk.1.2.1, ⟨hk.2, ⟨hk.1.2.2.1, ⟨hk.1.2.2.2.1, hk.1.2.2.2.2⟩⟩⟩⟩⟩)), (by (with_reducible repeat (first | apply Kd.R_alloc | apply Kd.R_drewN | apply Kd.R_drew)); exact Kd.R_mono HO_277001.out (fun _ hk => ⟨hk.1.1, ⟨hk.1.2.1, ⟨hk.2, ⟨hk.1.2.2.1, ⟨hk.1.2.2.2.1, hk.1.2.2.2.2⟩⟩⟩⟩⟩)), (by (with_reducible repeat (first | refine blk_drewN ?_ _ | refine blk_drew ?_ | refine blk_alloc ?_ _)); exact BK262.out), (by (with_reducible repeat (first | refine blk_drewN ?_ _ | refine blk_drew ?_ | refine blk_alloc ?_ _)); exact BK263.out), (by (with_reducible repeat (first | refine blk_drewN ?_ _ | refine blk_drew ?_ | refine blk_alloc ?_ _)); exact BK269.out), (by (with_reducible repeat (first | refine blk_drewN ?_ _ | refine blk_drew ?_ | refine blk_alloc ?_ _)); exact BK275.out), (by (with_reducible repeat (first | refine blk_drewN ?_ _ | refine blk_drew ?_ | refine blk_alloc ?_ _)); exact BK276.out), (by repeat (first | (with_reducible first | exact HB.out | apply below_alloc | apply pw_below_drewN | apply below_drew1 | refine below_set ?_ GE262.out | refine below_set ?_ GE263.out | refine below_set ?_ GE269.out | refine below_set ?_ GE275.out | refine below_set ?_ GE276.out) | exact HB.out))⟩)
          · skip
            refine box_step ?hg (N := 17) ?hd (cs := #[.int .i64 0, .slice none 0 0]) (t := 24) ?hr ?_; (case hd => rfl); (case hg => rfl); (case hr => first | (go_simp; done) | (go_simp; rfl))
            intro gb313 hg w148 hbox hb
            have n0_ := Aside0.mk (Kd.R_below (by (with_reducible repeat (first | apply Kd.R_alloc | apply Kd.R_drewN | apply Kd.R_drew)); exact HO_270001.out) hb)
            have n1_ := Aside0.mk (Kd.R_below (by (with_reducible repeat (first | apply Kd.R_alloc | apply Kd.R_drewN | apply Kd.R_drew)); exact HO_276001.out) hb)
            have n2_ := Aside0.mk (Kd.R_below (by (with_reducible repeat (first | apply Kd.R_alloc | apply Kd.R_drewN | apply Kd.R_drew)); exact HO_277001.out) hb)
            have n3_ := Aside0.mk (Kd.R_below (by (with_reducible repeat (first | apply Kd.R_alloc | apply Kd.R_drewN | apply Kd.R_drew)); exact HO305.out) hb)
            have n4_ := Aside0.mk (Kd.R_below (by (with_reducible repeat (first | apply Kd.R_alloc | apply Kd.R_drewN | apply Kd.R_drew)); exact HO308.out) hb)
            have n5_ := Aside0.mk (blk_below (g := gb262) (o := .cells #[.int .i64 a0_0, .slice A0_1 l0_1.length c0_1] 24 (0, 0)) (by (with_reducible repeat (first | refine blk_drewN ?_ _ | refine blk_drew ?_ | refine blk_alloc ?_ _)); exact BK262.out) hb)
            have n6_ := Aside0.mk (blk_below (g := gb263) (o := .cells #[.int .i64 a2_0, .int .i64 a2_1, .int .i64 a2_2] 41 (0, 0)) (by (with_reducible repeat (first | refine blk_drewN ?_ _ | refine blk_drew ?_ | refine blk_alloc ?_ _)); exact BK263.out) hb)
            have n7_ := Aside0.mk (blk_below (g := gb269) (o := .cells #[.int .i64 t265, .slice Ao17 t266.length co17] 24 (0, 0)) (by (with_reducible repeat (first | refine blk_drewN ?_ _ | refine blk_drew ?_ | refine blk_alloc ?_ _)); exact BK269.out) hb)
            have n8_ := Aside0.mk (blk_below (g := gb275) (o := .cells #[.int .i64 t265, u276001] 24 (0, 0)) (by (with_reducible repeat (first | refine blk_drewN ?_ _ | refine blk_drew ?_ | refine blk_alloc ?_ _)); exact BK275.out) hb)
            have n9_ := Aside0.mk (blk_below (g := gb276) (o := .cells #[.int .i64 t265, u277001] 24 (0, 0)) (by (with_reducible repeat (first | refine blk_drewN ?_ _ | refine blk_drew ?_ | refine blk_alloc ?_ _)); exact BK276.out) hb)
            have n10_ := Aside0.mk (below_step (by repeat (first | (with_reducible first | exact HB.out | apply below_alloc | apply pw_below_drewN | apply below_drew1 | refine below_set ?_ GE262.out | refine below_set ?_ GE263.out | refine below_set ?_ GE269.out | refine below_set ?_ GE275.out | refine below_set ?_ GE276.out) | exact HB.out)) hb)
            have n11_ := Aside0.mk (hbox)
            have n12_ := Aside0.mk ((by rw [hg]; exact (below_size (by repeat (first | (with_reducible first | exact HB.out | apply below_alloc | apply pw_below_drewN | apply below_drew1 | refine below_set ?_ GE262.out | refine below_set ?_ GE263.out | refine below_set ?_ GE269.out | refine below_set ?_ GE275.out | refine below_set ?_ GE276.out) | exact HB.out))) : w.heap.size ≤ gb313))
            have n13_ := Aside0.mk ((by rw [hg]; exact (below_size (by repeat (first | (with_reducible first | exact HB.out | apply below_alloc | apply pw_below_drewN | apply below_drew1 | refine below_set ?_ GE262.out | refine below_set ?_ GE263.out | refine below_set ?_ GE269.out | refine below_set ?_ GE275.out | refine below_set ?_ GE276.out) | exact HB.out))) : w.heap.size ≤ gb313))
            have n14_ := Aside0.mk ((by rw [hg]; exact Nat.ne_of_lt (blk_lt (g := gb262) (o := .cells #[.int .i64 a0_0, .slice A0_1 l0_1.length c0_1] 24 (0, 0)) (by (with_reducible repeat (first | refine blk_drewN ?_ _ | refine blk_drew ?_ | refine blk_alloc ?_ _)); exact BK262.out)) : gb262 ≠ gb313))
            have n15_ := Aside0.mk ((by rw [hg]; exact Nat.ne_of_gt (blk_lt (g := gb262) (o := .cells #[.int .i64 a0_0, .slice A0_1 l0_1.length c0_1] 24 (0, 0)) (by (with_reducible repeat (first | refine blk_drewN ?_ _ | refine blk_drew ?_ | refine blk_alloc ?_ _)); exact BK262.out)) : gb313 ≠ gb262))
            have n16_ := Aside0.mk ((by rw [hg]; exact Nat.ne_of_lt (blk_lt (g := gb263) (o := .cells #[.int .i64 a2_0, .int .i64 a2_1, .int .i64 a2_2] 41 (0, 0)) (by (with_reducible repeat (first | refine blk_drewN ?_ _ | refine blk_drew ?_ | refine blk_alloc ?_ _)); exact BK263.out)) : gb263 ≠ gb313))
            have n17_ := Aside0.mk ((by rw [hg]; exact Nat.ne_of_gt (blk_lt (g := gb263) (o := .cells #[.int .i64 a2_0, .int .i64 a2_1, .int .i64 a2_2] 41 (0, 0)) (by (with_reducible repeat (first | refine blk_drewN ?_ _ | refine blk_drew ?_ | refine blk_alloc ?_ _)); exact BK263.out)) : gb313 ≠ gb263))
            have n18_ := Aside0.mk ((by rw [hg]; exact Nat.ne_of_lt (blk_lt (g := gb269) (o := .cells #[.int .i64 t265, .slice Ao17 t266.length co17] 24 (0, 0)) (by (with_reducible repeat (first | refine blk_drewN ?_ _ | refine blk_drew ?_ | refine blk_alloc ?_ _)); exact BK269.out)) : gb269 ≠ gb313))
            have n19_ := Aside0.mk ((by rw [hg]; exact Nat.ne_of_gt (blk_lt (g := gb269) (o := .cells #[.int .i64 t265, .slice Ao17 t266.length co17] 24 (0, 0)) (by (with_reducible repeat (first | refine blk_drewN ?_ _ | refine blk_drew ?_ | refine blk_alloc ?_ _)); exact BK269.out)) : gb313 ≠ gb269))
            have n20_ := Aside0.mk ((by rw [hg]; exact Nat.ne_of_lt (blk_lt (g := gb275) (o := .cells #[.int .i64 t265, u276001] 24 (0, 0)) (by (with_reducible repeat (first | refine blk_drewN ?_ _ | refine blk_drew ?_ | refine blk_alloc ?_ _)); exact BK275.out)) : gb275 ≠ gb313))
            have n21_ := Aside0.mk ((by rw [hg]; exact Nat.ne_of_gt (blk_lt (g := gb275) (o := .cells #[.int .i64 t265, u276001] 24 (0, 0)) (by (with_reducible repeat (first | refine blk_drewN ?_ _ | refine blk_drew ?_ | refine blk_alloc ?_ _)); exact BK275.out)) : gb313 ≠ gb275))
            have n22_ := Aside0.mk ((by rw [hg]; exact Nat.ne_of_lt (blk_lt (g := gb276) (o := .cells #[.int .i64 t265, u277001] 24 (0, 0)) (by (with_reducible repeat (first | refine blk_drewN ?_ _ | refine blk_drew ?_ | refine blk_alloc ?_ _)); exact BK276.out)) : gb276 ≠ gb313))
            have n23_ := Aside0.mk ((by rw [hg]; exact Nat.ne_of_gt (blk_lt (g := gb276) (o := .cells #[.int .i64 t265, u277001] 24 (0, 0)) (by (with_reducible repeat (first | refine blk_drewN ?_ _ | refine blk_drew ?_ | refine blk_alloc ?_ _)); exact BK276.out)) : gb313 ≠ gb276))
            clear HO_270001
            clear HO_276001
            clear HO_277001
            clear HO305
            clear HO308
            clear BK262
            clear BK263
            clear BK269
            clear BK275
            clear BK276
            clear HB
            have HO_270001 := n0_
            have HO_276001 := n1_
            have HO_277001 := n2_
            have HO305 := n3_
            have HO308 := n4_
            have BK262 := n5_
            have BK263 := n6_
            have BK269 := n7_
            have BK275 := n8_
            have BK276 := n9_
            have HB := n10_
            have BK313 := n11_
            have GW313 := n12_
            have GE313 := n13_
            have NB262_313 := n14_
            have NB313_262 := n15_
            have NB263_313 := n16_
            have NB313_263 := n17_
            have NB269_313 := n18_
            have NB313_269 := n19_
            have NB275_313 := n20_
            have NB313_275 := n21_
            have NB276_313 := n22_
            have NB313_276 := n23_
            clear n0_ n1_ n2_ n3_ n4_ n5_ n6_ n7_ n8_ n9_ n10_ n11_ n12_ n13_ n14_ n15_ n16_ n17_ n18_ n19_ n20_ n21_ n22_ n23_
            clear hb hbox hg
            refine hK.out _ _ ⟨(blk_cell BK269.out 0).trans rfl, (blk_cell BK269.out 1).trans rfl, (blk_cell BK263.out 0).trans rfl, (blk_cell BK263.out 1).trans rfl, (blk_cell BK263.out 2).trans rfl⟩ (fun hHeld => ?_)
            clear hK K
            refine norm_ (a' := ?_) ?_ ?_
            rotate_left
            · show Act.put _ (some 17) _ = _
              simp only [Act.put, List.setIfInBounds_toArray, List.set_cons_zero, List.set_cons_succ, i64_w, i32_w]
              rfl
            exact norm_ (by first | (simp only [putAll, Act.put, List.setIfInBounds_toArray, List.set_cons_zero, List.set_cons_succ]; done) | (simp only [putAll, Act.put, List.setIfInBounds_toArray, List.set_cons_zero, List.set_cons_succ]; rfl)) (hJ5_7_8_11 (v301, v304, .slice Ao147 y306.length co147, gb313) _ ⟨hHeld, (by (with_reducible repeat (first | apply Kd.R_alloc | apply Kd.R_drewN | apply Kd.R_drew)); exact HO305.out), (by (with_reducible repeat (first | apply Kd.R_alloc | apply Kd.R_drewN | apply Kd.R_drew)); exact HO308.out), (by (with_reducible repeat (first | apply Kd.R_alloc | apply Kd.R_drewN | apply Kd.R_drew)); exact HO_270001.out), (by (with_reducible repeat (first | apply Kd.R_alloc | apply Kd.R_drewN | apply Kd.R_drew)); exact HO_276001.out), (by (with_reducible repeat (first | apply Kd.R_alloc | apply Kd.R_drewN | apply Kd.R_drew)); exact HO_277001.out), (by (with_reducible repeat (first | refine blk_drewN ?_ _ | refine blk_drew ?_ | refine blk_alloc ?_ _)); exact BK262.out), (by (with_reducible repeat (first | refine blk_drewN ?_ _ | refine blk_drew ?_ | refine blk_alloc ?_ _)); exact BK263.out), (by (with_reducible repeat (first | refine blk_drewN ?_ _ | refine blk_drew ?_ | refine blk_alloc ?_ _)); exact BK269.out), (by (with_reducible repeat (first | refine blk_drewN ?_ _ | refine blk_drew ?_ | refine blk_alloc ?_ _)); exact BK275.out), (by (with_reducible repeat (first | refine blk_drewN ?_ _ | refine blk_drew ?_ | refine blk_alloc ?_ _)); exact BK276.out), (by (with_reducible repeat (first | refine blk_drewN ?_ _ | refine blk_drew ?_ | refine blk_alloc ?_ _)); exact BK313.out), GW313.out, GE313.out, NB262_313.out, NB313_262.out, NB263_313.out, NB313_263.out, NB269_313.out, NB313_269.out, NB275_313.out, NB313_275.out, NB276_313.out, NB313_276.out, (by repeat (first | (with_reducible first | exact HB.out | apply below_alloc | apply pw_below_drewN | apply below_drew1 | refine below_set ?_ GE262.out | refine below_set ?_ GE263.out | refine below_set ?_ GE269.out | refine below_set ?_ GE275.out | refine below_set ?_ GE276.out | refine below_set ?_ GE313.out) | exact HB.out))⟩)
      · skip
        rintro ⟨v301, v304, v307, gb313⟩ w147 ⟨hS_, h0_, h1_, h2_, h3_, h4_, h5_, h6_, h7_, h8_, h9_, h10_, h11_, h12_, h13_, h14_, h15_, h16_, h17_, h18_, h19_, h20_, h21_, h22_, h23_⟩
        have n0_ : Aside0 (Kd.R k41 41 w147 w.heap.size (fun k_ => some k_ ≠ (v307 : Value).ownBlock ∧ some k_ ≠ (.slice Ao17 t266.length co17 : Value).ownBlock ∧ some k_ ≠ (u276001 : Value).ownBlock ∧ some k_ ≠ (u277001 : Value).ownBlock ∧ k_ ≠ gb263) v304 y303) := ⟨h0_⟩
        have n1_ : Aside0 (Kd.R k41 41 w147 w.heap.size (fun k_ => some k_ ≠ (v304 : Value).ownBlock ∧ some k_ ≠ (.slice Ao17 t266.length co17 : Value).ownBlock ∧ some k_ ≠ (u276001 : Value).ownBlock ∧ some k_ ≠ (u277001 : Value).ownBlock ∧ k_ ≠ gb263) v307 y306) := ⟨h1_⟩
        have n2_ : Aside0 (Kd.R k41 41 w147 w.heap.size (fun k_ => some k_ ≠ (v304 : Value).ownBlock ∧ some k_ ≠ (v307 : Value).ownBlock ∧ some k_ ≠ (u276001 : Value).ownBlock ∧ some k_ ≠ (u277001 : Value).ownBlock ∧ k_ ≠ gb263) (.slice Ao17 t266.length co17) t266) := ⟨h2_⟩
        have n3_ : Aside0 (Kd.R k41 41 w147 w.heap.size (fun k_ => some k_ ≠ (v304 : Value).ownBlock ∧ some k_ ≠ (v307 : Value).ownBlock ∧ some k_ ≠ (.slice Ao17 t266.length co17 : Value).ownBlock ∧ some k_ ≠ (u277001 : Value).ownBlock ∧ k_ ≠ gb263) u276001 x276001_1) := ⟨h3_⟩
        have n4_ : Aside0 (Kd.R k41 41 w147 w.heap.size (fun k_ => some k_ ≠ (v304 : Value).ownBlock ∧ some k_ ≠ (v307 : Value).ownBlock ∧ some k_ ≠ (.slice Ao17 t266.length co17 : Value).ownBlock ∧ some k_ ≠ (u276001 : Value).ownBlock ∧ k_ ≠ gb263) u277001 x277001_1) := ⟨h4_⟩
        have n5_ : Aside0 (w147.heap[gb262]? = some (.cells #[.int .i64 a0_0, .slice A0_1 l0_1.length c0_1] 24 (0, 0))) := ⟨h5_⟩
        have n6_ : Aside0 (w147.heap[gb263]? = some (.cells #[.int .i64 a2_0, .int .i64 a2_1, .int .i64 a2_2] 41 (0, 0))) := ⟨h6_⟩
        have n7_ : Aside0 (w147.heap[gb269]? = some (.cells #[.int .i64 t265, .slice Ao17 t266.length co17] 24 (0, 0))) := ⟨h7_⟩
        have n8_ : Aside0 (w147.heap[gb275]? = some (.cells #[.int .i64 t265, u276001] 24 (0, 0))) := ⟨h8_⟩
        have n9_ : Aside0 (w147.heap[gb276]? = some (.cells #[.int .i64 t265, u277001] 24 (0, 0))) := ⟨h9_⟩
        have n10_ : Aside0 (w147.heap[gb313]? = some (.cells #[.int .i64 0, .slice none 0 0] 24 (0, 0))) := ⟨h10_⟩
        have n11_ : Aside0 (w.heap.size ≤ gb313) := ⟨h11_⟩
        have n12_ : Aside0 (w.heap.size ≤ gb313) := ⟨h12_⟩
        have n13_ : Aside0 (gb262 ≠ gb313) := ⟨h13_⟩
        have n14_ : Aside0 (gb313 ≠ gb262) := ⟨h14_⟩
        have n15_ : Aside0 (gb263 ≠ gb313) := ⟨h15_⟩
        have n16_ : Aside0 (gb313 ≠ gb263) := ⟨h16_⟩
        have n17_ : Aside0 (gb269 ≠ gb313) := ⟨h17_⟩
        have n18_ : Aside0 (gb313 ≠ gb269) := ⟨h18_⟩
        have n19_ : Aside0 (gb275 ≠ gb313) := ⟨h19_⟩
        have n20_ : Aside0 (gb313 ≠ gb275) := ⟨h20_⟩
        have n21_ : Aside0 (gb276 ≠ gb313) := ⟨h21_⟩
        have n22_ : Aside0 (gb313 ≠ gb276) := ⟨h22_⟩
        have n23_ : Aside0 (Below w.heap.size w w147) := ⟨h23_⟩
        clear HO_270001
        clear HO_276001
        clear HO_277001
        clear BK262
        clear BK263
        clear BK269
        clear BK275
        clear BK276
        clear HB
        clear h0_ h1_ h2_ h3_ h4_ h5_ h6_ h7_ h8_ h9_ h10_ h11_ h12_ h13_ h14_ h15_ h16_ h17_ h18_ h19_ h20_ h21_ h22_ h23_
        have HO305 := n0_
        have HO308 := n1_
        have HO_270001 := n2_
        have HO_276001 := n3_
        have HO_277001 := n4_
        have BK262 := n5_
        have BK263 := n6_
        have BK269 := n7_
        have BK275 := n8_
        have BK276 := n9_
        have BK313 := n10_
        have GW313 := n11_
        have GE313 := n12_
        have NB262_313 := n13_
        have NB313_262 := n14_
        have NB263_313 := n15_
        have NB313_263 := n16_
        have NB269_313 := n17_
        have NB313_269 := n18_
        have NB275_313 := n19_
        have NB313_275 := n20_
        have NB276_313 := n21_
        have NB313_276 := n22_
        have HB := n23_
        clear n0_ n1_ n2_ n3_ n4_ n5_ n6_ n7_ n8_ n9_ n10_ n11_ n12_ n13_ n14_ n15_ n16_ n17_ n18_ n19_ n20_ n21_ n22_ n23_
        have hHeld : w147.cell? ⟨gb269, 0, none⟩ = some (.int .i64 t265) ∧ w147.cell? ⟨gb269, 1, none⟩ = some (.slice Ao17 t266.length co17) ∧ w147.cell? ⟨gb263, 0, none⟩ = some (.int .i64 a2_0) ∧ w147.cell? ⟨gb263, 1, none⟩ = some (.int .i64 a2_1) ∧ w147.cell? ⟨gb263, 2, none⟩ = some (.int .i64 a2_2) := hS_
        obtain ⟨Ao148, co148, eo148⟩ := Kd.R_slice HO308.out
        (first | subst eo148 | (injection eo148 with f1_ f2_ f3_; have f4_ := f1_.symm; have f5_ := f3_.symm; clear f1_ f2_ f3_; subst f4_; subst f5_))
        refine norm_ (a' := ?_) ?_ ?_
        rotate_left
        · simp only [putAll, Act.put, List.setIfInBounds_toArray, List.set_cons_zero, List.set_cons_succ]
          rfl
        refine one_ (i := 10) (N := some 93) #[true, true, true, true, true, true, true, true, true, true, true, true, false] rfl rfl (one_of HT_.out (by kernel_rfl)) (by decide) (fun K hK => ?_)
        refine goes_ Try.func30 (by kernel_rfl) rfl #[.agg #[.int .i64 (wrap64 (t265 - 2)), .slice Ao148 y306.length co148]] (by rfl) rfl rfl (by (try simp only [List.map_toArray, List.map_cons, List.map_nil]); first | done | rfl | (simp only [List.length_drop, List.length_take]; rfl)) ?_
        with_reducible refine (billetlaw05_Fit.calls k1 (wrap64 (t265 - 2)) _ _ y306 t309 t310 _ ?side1 ?side2 A123.out).mono ?_
        (case side1 => repeat (first | exact (Kd.R_reads' HO308.out).2.2 | (with_reducible refine Kd.C_alloc ?_ _) | (with_reducible refine Kd.C_drewN ?_ _) | (with_reducible refine Kd.C_drew ?_)))
        (case side2 => exact (Kd.R_reads' HO308.out).2.1)
        rintro e w149 ⟨v311, rfl, ho0, hb⟩
        refine ⟨_, rfl, ?_⟩
        have n0_ := Aside0.mk (Kd.R_elder' (by (with_reducible repeat (first | apply Kd.R_alloc | apply Kd.R_drewN | apply Kd.R_drew)); exact HO_270001.out) (Kd.R_base ho0) hb)
        have n1_ := Aside0.mk (Kd.R_elder' (by (with_reducible repeat (first | apply Kd.R_alloc | apply Kd.R_drewN | apply Kd.R_drew)); exact HO_276001.out) (Kd.R_base ho0) hb)
        have n2_ := Aside0.mk (Kd.R_elder' (by (with_reducible repeat (first | apply Kd.R_alloc | apply Kd.R_drewN | apply Kd.R_drew)); exact HO_277001.out) (Kd.R_base ho0) hb)
        have n3_ := Aside0.mk (Kd.R_elder' (by (with_reducible repeat (first | apply Kd.R_alloc | apply Kd.R_drewN | apply Kd.R_drew)); exact HO305.out) (Kd.R_base ho0) hb)
        have n4_ := Aside0.mk (Kd.R_elder' (by (with_reducible repeat (first | apply Kd.R_alloc | apply Kd.R_drewN | apply Kd.R_drew)); exact HO308.out) (Kd.R_base ho0) hb)
        have n5_ := Aside0.mk (Kd.R_lower (Kd.R_newB (Kd.R_new' (Kd.R_new' (Kd.R_new' (Kd.R_new' (Kd.R_new' ho0 (Kd.R_lt (by (with_reducible repeat (first | apply Kd.R_alloc | apply Kd.R_drewN | apply Kd.R_drew)); exact HO_270001.out))) (Kd.R_lt (by (with_reducible repeat (first | apply Kd.R_alloc | apply Kd.R_drewN | apply Kd.R_drew)); exact HO_276001.out))) (Kd.R_lt (by (with_reducible repeat (first | apply Kd.R_alloc | apply Kd.R_drewN | apply Kd.R_drew)); exact HO_277001.out))) (Kd.R_lt (by (with_reducible repeat (first | apply Kd.R_alloc | apply Kd.R_drewN | apply Kd.R_drew)); exact HO305.out))) (Kd.R_lt (by (with_reducible repeat (first | apply Kd.R_alloc | apply Kd.R_drewN | apply Kd.R_drew)); exact HO308.out))) (g := gb263) (o := .cells #[.int .i64 a2_0, .int .i64 a2_1, .int .i64 a2_2] 41 (0, 0)) (by (with_reducible repeat (first | refine blk_drewN ?_ _ | refine blk_drew ?_ | refine blk_alloc ?_ _)); exact BK263.out)) (below_size (by repeat (first | (with_reducible first | exact HB.out | apply below_alloc | apply pw_below_drewN | apply below_drew1 | refine below_set ?_ GE262.out | refine below_set ?_ GE263.out | refine below_set ?_ GE269.out | refine below_set ?_ GE275.out | refine below_set ?_ GE276.out | refine below_set ?_ GE313.out) | exact HB.out))))
        have n6_ := Aside0.mk (blk_below (g := gb262) (o := .cells #[.int .i64 a0_0, .slice A0_1 l0_1.length c0_1] 24 (0, 0)) (by (with_reducible repeat (first | refine blk_drewN ?_ _ | refine blk_drew ?_ | refine blk_alloc ?_ _)); exact BK262.out) hb)
        have n7_ := Aside0.mk (blk_below (g := gb263) (o := .cells #[.int .i64 a2_0, .int .i64 a2_1, .int .i64 a2_2] 41 (0, 0)) (by (with_reducible repeat (first | refine blk_drewN ?_ _ | refine blk_drew ?_ | refine blk_alloc ?_ _)); exact BK263.out) hb)
        have n8_ := Aside0.mk (blk_below (g := gb269) (o := .cells #[.int .i64 t265, .slice Ao17 t266.length co17] 24 (0, 0)) (by (with_reducible repeat (first | refine blk_drewN ?_ _ | refine blk_drew ?_ | refine blk_alloc ?_ _)); exact BK269.out) hb)
        have n9_ := Aside0.mk (blk_below (g := gb275) (o := .cells #[.int .i64 t265, u276001] 24 (0, 0)) (by (with_reducible repeat (first | refine blk_drewN ?_ _ | refine blk_drew ?_ | refine blk_alloc ?_ _)); exact BK275.out) hb)
        have n10_ := Aside0.mk (blk_below (g := gb276) (o := .cells #[.int .i64 t265, u277001] 24 (0, 0)) (by (with_reducible repeat (first | refine blk_drewN ?_ _ | refine blk_drew ?_ | refine blk_alloc ?_ _)); exact BK276.out) hb)
        have n11_ := Aside0.mk (blk_below (g := gb313) (o := .cells #[.int .i64 0, .slice none 0 0] 24 (0, 0)) (by (with_reducible repeat (first | refine blk_drewN ?_ _ | refine blk_drew ?_ | refine blk_alloc ?_ _)); exact BK313.out) hb)
        have n12_ := Aside0.mk (below_step (by repeat (first | (with_reducible first | exact HB.out | apply below_alloc | apply pw_below_drewN | apply below_drew1 | refine below_set ?_ GE262.out | refine below_set ?_ GE263.out | refine below_set ?_ GE269.out | refine below_set ?_ GE275.out | refine below_set ?_ GE276.out | refine below_set ?_ GE313.out) | exact HB.out)) hb)
        clear HO_270001
        clear HO_276001
        clear HO_277001
        clear HO305
        clear HO308
        clear BK262
        clear BK263
        clear BK269
        clear BK275
        clear BK276
        clear BK313
        clear HB
        have HO_270001 := n0_
        have HO_276001 := n1_
        have HO_277001 := n2_
        have HO305 := n3_
        have HO308 := n4_
        have HO312 := n5_
        have BK262 := n6_
        have BK263 := n7_
        have BK269 := n8_
        have BK275 := n9_
        have BK276 := n10_
        have BK313 := n11_
        have HB := n12_
        clear n0_ n1_ n2_ n3_ n4_ n5_ n6_ n7_ n8_ n9_ n10_ n11_ n12_
        (try clear hb)
        (try clear hb2)
        (try clear hk)
        (try clear hi)
        (try clear ho0)
        refine hK.out _ _ ⟨(blk_cell BK269.out 0).trans rfl, (blk_cell BK269.out 1).trans rfl, (blk_cell BK263.out 0).trans rfl, (blk_cell BK263.out 1).trans rfl, (blk_cell BK263.out 2).trans rfl⟩ (fun hHeld => ?_)
        clear hK K
        refine norm_ (a' := ?_) ?_ ?_
        rotate_left
        · show Act.put _ (some 93) _ = _
          simp only [Act.put, List.setIfInBounds_toArray, List.set_cons_zero, List.set_cons_succ, i64_w, i32_w]
          rfl
        exact norm_ (by first | (simp only [putAll, Act.put, List.setIfInBounds_toArray, List.set_cons_zero, List.set_cons_succ]; done) | (simp only [putAll, Act.put, List.setIfInBounds_toArray, List.set_cons_zero, List.set_cons_succ]; rfl)) (hJ5_7_8_10_11 (v301, v304, .slice Ao148 y306.length co148, v311, gb313) _ ⟨hHeld, (by (with_reducible repeat (first | apply Kd.R_alloc | apply Kd.R_drewN | apply Kd.R_drew)); exact Kd.R_mono HO305.out (fun _ hk => ⟨hk.1.1, ⟨hk.2, ⟨hk.1.2.1, ⟨hk.1.2.2.1, ⟨hk.1.2.2.2.1, hk.1.2.2.2.2⟩⟩⟩⟩⟩)), (by (with_reducible repeat (first | apply Kd.R_alloc | apply Kd.R_drewN | apply Kd.R_drew)); exact Kd.R_mono HO308.out (fun _ hk => ⟨hk.1.1, ⟨hk.2, ⟨hk.1.2.1, ⟨hk.1.2.2.1, ⟨hk.1.2.2.2.1, hk.1.2.2.2.2⟩⟩⟩⟩⟩)), (by (with_reducible repeat (first | apply Kd.R_alloc | apply Kd.R_drewN | apply Kd.R_drew)); exact Kd.R_mono HO312.out (fun _ hk => ⟨hk.1.1.2, ⟨hk.1.2, ⟨hk.1.1.1.1.1.2, ⟨hk.1.1.1.1.2, ⟨hk.1.1.1.2, hk.2⟩⟩⟩⟩⟩)), (by (with_reducible repeat (first | apply Kd.R_alloc | apply Kd.R_drewN | apply Kd.R_drew)); exact Kd.R_mono HO_270001.out (fun _ hk => ⟨hk.1.1, ⟨hk.1.2.1, ⟨hk.2, ⟨hk.1.2.2.1, ⟨hk.1.2.2.2.1, hk.1.2.2.2.2⟩⟩⟩⟩⟩)), (by (with_reducible repeat (first | apply Kd.R_alloc | apply Kd.R_drewN | apply Kd.R_drew)); exact Kd.R_mono HO_276001.out (fun _ hk => ⟨hk.1.1, ⟨hk.1.2.1, ⟨hk.2, ⟨hk.1.2.2.1, ⟨hk.1.2.2.2.1, hk.1.2.2.2.2⟩⟩⟩⟩⟩)), (by (with_reducible repeat (first | apply Kd.R_alloc | apply Kd.R_drewN | apply Kd.R_drew)); exact Kd.R_mono HO_277001.out (fun _ hk => ⟨hk.1.1, ⟨hk.1.2.1, ⟨hk.2, ⟨hk.1.2.2.1, ⟨hk.1.2.2.2.1, hk.1.2.2.2.2⟩⟩⟩⟩⟩)), (by (with_reducible repeat (first | refine blk_drewN ?_ _ | refine blk_drew ?_ | refine blk_alloc ?_ _)); exact BK262.out), (by (with_reducible repeat (first | refine blk_drewN ?_ _ | refine blk_drew ?_ | refine blk_alloc ?_ _)); exact BK263.out), (by (with_reducible repeat (first | refine blk_drewN ?_ _ | refine blk_drew ?_ | refine blk_alloc ?_ _)); exact BK269.out), (by (with_reducible repeat (first | refine blk_drewN ?_ _ | refine blk_drew ?_ | refine blk_alloc ?_ _)); exact BK275.out), (by (with_reducible repeat (first | refine blk_drewN ?_ _ | refine blk_drew ?_ | refine blk_alloc ?_ _)); exact BK276.out), (by (with_reducible repeat (first | refine blk_drewN ?_ _ | refine blk_drew ?_ | refine blk_alloc ?_ _)); exact BK313.out), GW313.out, GE313.out, NB262_313.out, NB313_262.out, NB263_313.out, NB313_263.out, NB269_313.out, NB313_269.out, NB275_313.out, NB313_275.out, NB276_313.out, NB313_276.out, (by repeat (first | (with_reducible first | exact HB.out | apply below_alloc | apply pw_below_drewN | apply below_drew1 | refine below_set ?_ GE262.out | refine below_set ?_ GE263.out | refine below_set ?_ GE269.out | refine below_set ?_ GE275.out | refine below_set ?_ GE276.out | refine below_set ?_ GE313.out) | exact HB.out))⟩)
    · skip
      rintro ⟨v301, v304, v307, v311⟩ w147 ⟨hS_, h0_, h1_, h2_, h3_, h4_, h5_, h6_, h7_, h8_, h9_, h10_, h11_⟩
      have n0_ : Aside0 (Kd.R k41 41 w147 w.heap.size (fun k_ => some k_ ≠ (v307 : Value).ownBlock ∧ some k_ ≠ (v311 : Value).ownBlock ∧ some k_ ≠ (.slice Ao17 t266.length co17 : Value).ownBlock ∧ some k_ ≠ (u276001 : Value).ownBlock ∧ some k_ ≠ (u277001 : Value).ownBlock ∧ k_ ≠ gb263) v304 y303) := ⟨h0_⟩
      have n1_ : Aside0 (Kd.R k41 41 w147 w.heap.size (fun k_ => some k_ ≠ (v304 : Value).ownBlock ∧ some k_ ≠ (v311 : Value).ownBlock ∧ some k_ ≠ (.slice Ao17 t266.length co17 : Value).ownBlock ∧ some k_ ≠ (u276001 : Value).ownBlock ∧ some k_ ≠ (u277001 : Value).ownBlock ∧ k_ ≠ gb263) v307 y306) := ⟨h1_⟩
      have n2_ : Aside0 (Kd.R k41 41 w147 w.heap.size (fun k_ => some k_ ≠ (v304 : Value).ownBlock ∧ some k_ ≠ (v307 : Value).ownBlock ∧ some k_ ≠ (.slice Ao17 t266.length co17 : Value).ownBlock ∧ some k_ ≠ (u276001 : Value).ownBlock ∧ some k_ ≠ (u277001 : Value).ownBlock ∧ k_ ≠ gb263) v311 t310) := ⟨h2_⟩
      have n3_ : Aside0 (Kd.R k41 41 w147 w.heap.size (fun k_ => some k_ ≠ (v304 : Value).ownBlock ∧ some k_ ≠ (v307 : Value).ownBlock ∧ some k_ ≠ (v311 : Value).ownBlock ∧ some k_ ≠ (u276001 : Value).ownBlock ∧ some k_ ≠ (u277001 : Value).ownBlock ∧ k_ ≠ gb263) (.slice Ao17 t266.length co17) t266) := ⟨h3_⟩
      have n4_ : Aside0 (Kd.R k41 41 w147 w.heap.size (fun k_ => some k_ ≠ (v304 : Value).ownBlock ∧ some k_ ≠ (v307 : Value).ownBlock ∧ some k_ ≠ (v311 : Value).ownBlock ∧ some k_ ≠ (.slice Ao17 t266.length co17 : Value).ownBlock ∧ some k_ ≠ (u277001 : Value).ownBlock ∧ k_ ≠ gb263) u276001 x276001_1) := ⟨h4_⟩
      have n5_ : Aside0 (Kd.R k41 41 w147 w.heap.size (fun k_ => some k_ ≠ (v304 : Value).ownBlock ∧ some k_ ≠ (v307 : Value).ownBlock ∧ some k_ ≠ (v311 : Value).ownBlock ∧ some k_ ≠ (.slice Ao17 t266.length co17 : Value).ownBlock ∧ some k_ ≠ (u276001 : Value).ownBlock ∧ k_ ≠ gb263) u277001 x277001_1) := ⟨h5_⟩
      have n6_ : Aside0 (w147.heap[gb262]? = some (.cells #[.int .i64 a0_0, .slice A0_1 l0_1.length c0_1] 24 (0, 0))) := ⟨h6_⟩
      have n7_ : Aside0 (w147.heap[gb263]? = some (.cells #[.int .i64 a2_0, .int .i64 a2_1, .int .i64 a2_2] 41 (0, 0))) := ⟨h7_⟩
      have n8_ : Aside0 (w147.heap[gb269]? = some (.cells #[.int .i64 t265, .slice Ao17 t266.length co17] 24 (0, 0))) := ⟨h8_⟩
      have n9_ : Aside0 (w147.heap[gb275]? = some (.cells #[.int .i64 t265, u276001] 24 (0, 0))) := ⟨h9_⟩
      have n10_ : Aside0 (w147.heap[gb276]? = some (.cells #[.int .i64 t265, u277001] 24 (0, 0))) := ⟨h10_⟩
      have n11_ : Aside0 (Below w.heap.size w w147) := ⟨h11_⟩
      clear HO_270001
      clear HO_276001
      clear HO_277001
      clear BK262
      clear BK263
      clear BK269
      clear BK275
      clear BK276
      clear HB
      clear h0_ h1_ h2_ h3_ h4_ h5_ h6_ h7_ h8_ h9_ h10_ h11_
      have HO305 := n0_
      have HO308 := n1_
      have HO312 := n2_
      have HO_270001 := n3_
      have HO_276001 := n4_
      have HO_277001 := n5_
      have BK262 := n6_
      have BK263 := n7_
      have BK269 := n8_
      have BK275 := n9_
      have BK276 := n10_
      have HB := n11_
      clear n0_ n1_ n2_ n3_ n4_ n5_ n6_ n7_ n8_ n9_ n10_ n11_
      have hHeld : w147.cell? ⟨gb269, 0, none⟩ = some (.int .i64 t265) ∧ w147.cell? ⟨gb269, 1, none⟩ = some (.slice Ao17 t266.length co17) ∧ w147.cell? ⟨gb263, 0, none⟩ = some (.int .i64 a2_0) ∧ w147.cell? ⟨gb263, 1, none⟩ = some (.int .i64 a2_1) ∧ w147.cell? ⟨gb263, 2, none⟩ = some (.int .i64 a2_2) := hS_
      obtain ⟨Ao148, co148, eo148⟩ := Kd.R_slice HO308.out
      (first | subst eo148 | (injection eo148 with f1_ f2_ f3_; have f4_ := f1_.symm; have f5_ := f3_.symm; clear f1_ f2_ f3_; subst f4_; subst f5_))
      refine norm_ (a' := ?_) ?_ ?_
      rotate_left
      · simp only [putAll, Act.put, List.setIfInBounds_toArray, List.set_cons_zero, List.set_cons_succ]
        rfl
      refine one_ (i := 11) (N := some 17) #[true, true, true, true, true, true, true, true, true, true, true, true, false] rfl rfl (one_of HT_.out (by kernel_rfl)) (by decide) (fun K hK => ?_)
      refine box_step ?hg (N := 17) ?hd (cs := #[.int .i64 0, .slice none 0 0]) (t := 24) ?hr ?_; (case hd => rfl); (case hg => rfl); (case hr => first | (go_simp; done) | (go_simp; rfl))
      intro gb313 hg w149 hbox hb
      have n0_ := Aside0.mk (Kd.R_below (by (with_reducible repeat (first | apply Kd.R_alloc | apply Kd.R_drewN | apply Kd.R_drew)); exact HO_270001.out) hb)
      have n1_ := Aside0.mk (Kd.R_below (by (with_reducible repeat (first | apply Kd.R_alloc | apply Kd.R_drewN | apply Kd.R_drew)); exact HO_276001.out) hb)
      have n2_ := Aside0.mk (Kd.R_below (by (with_reducible repeat (first | apply Kd.R_alloc | apply Kd.R_drewN | apply Kd.R_drew)); exact HO_277001.out) hb)
      have n3_ := Aside0.mk (Kd.R_below (by (with_reducible repeat (first | apply Kd.R_alloc | apply Kd.R_drewN | apply Kd.R_drew)); exact HO305.out) hb)
      have n4_ := Aside0.mk (Kd.R_below (by (with_reducible repeat (first | apply Kd.R_alloc | apply Kd.R_drewN | apply Kd.R_drew)); exact HO308.out) hb)
      have n5_ := Aside0.mk (Kd.R_below (by (with_reducible repeat (first | apply Kd.R_alloc | apply Kd.R_drewN | apply Kd.R_drew)); exact HO312.out) hb)
      have n6_ := Aside0.mk (blk_below (g := gb262) (o := .cells #[.int .i64 a0_0, .slice A0_1 l0_1.length c0_1] 24 (0, 0)) (by (with_reducible repeat (first | refine blk_drewN ?_ _ | refine blk_drew ?_ | refine blk_alloc ?_ _)); exact BK262.out) hb)
      have n7_ := Aside0.mk (blk_below (g := gb263) (o := .cells #[.int .i64 a2_0, .int .i64 a2_1, .int .i64 a2_2] 41 (0, 0)) (by (with_reducible repeat (first | refine blk_drewN ?_ _ | refine blk_drew ?_ | refine blk_alloc ?_ _)); exact BK263.out) hb)
      have n8_ := Aside0.mk (blk_below (g := gb269) (o := .cells #[.int .i64 t265, .slice Ao17 t266.length co17] 24 (0, 0)) (by (with_reducible repeat (first | refine blk_drewN ?_ _ | refine blk_drew ?_ | refine blk_alloc ?_ _)); exact BK269.out) hb)
      have n9_ := Aside0.mk (blk_below (g := gb275) (o := .cells #[.int .i64 t265, u276001] 24 (0, 0)) (by (with_reducible repeat (first | refine blk_drewN ?_ _ | refine blk_drew ?_ | refine blk_alloc ?_ _)); exact BK275.out) hb)
      have n10_ := Aside0.mk (blk_below (g := gb276) (o := .cells #[.int .i64 t265, u277001] 24 (0, 0)) (by (with_reducible repeat (first | refine blk_drewN ?_ _ | refine blk_drew ?_ | refine blk_alloc ?_ _)); exact BK276.out) hb)
      have n11_ := Aside0.mk (below_step (by repeat (first | (with_reducible first | exact HB.out | apply below_alloc | apply pw_below_drewN | apply below_drew1 | refine below_set ?_ GE262.out | refine below_set ?_ GE263.out | refine below_set ?_ GE269.out | refine below_set ?_ GE275.out | refine below_set ?_ GE276.out) | exact HB.out)) hb)
      have n12_ := Aside0.mk (hbox)
      have n13_ := Aside0.mk ((by rw [hg]; exact (below_size (by repeat (first | (with_reducible first | exact HB.out | apply below_alloc | apply pw_below_drewN | apply below_drew1 | refine below_set ?_ GE262.out | refine below_set ?_ GE263.out | refine below_set ?_ GE269.out | refine below_set ?_ GE275.out | refine below_set ?_ GE276.out) | exact HB.out))) : w.heap.size ≤ gb313))
      have n14_ := Aside0.mk ((by rw [hg]; exact (below_size (by repeat (first | (with_reducible first | exact HB.out | apply below_alloc | apply pw_below_drewN | apply below_drew1 | refine below_set ?_ GE262.out | refine below_set ?_ GE263.out | refine below_set ?_ GE269.out | refine below_set ?_ GE275.out | refine below_set ?_ GE276.out) | exact HB.out))) : w.heap.size ≤ gb313))
      have n15_ := Aside0.mk ((by rw [hg]; exact Nat.ne_of_lt (blk_lt (g := gb262) (o := .cells #[.int .i64 a0_0, .slice A0_1 l0_1.length c0_1] 24 (0, 0)) (by (with_reducible repeat (first | refine blk_drewN ?_ _ | refine blk_drew ?_ | refine blk_alloc ?_ _)); exact BK262.out)) : gb262 ≠ gb313))
      have n16_ := Aside0.mk ((by rw [hg]; exact Nat.ne_of_gt (blk_lt (g := gb262) (o := .cells #[.int .i64 a0_0, .slice A0_1 l0_1.length c0_1] 24 (0, 0)) (by (with_reducible repeat (first | refine blk_drewN ?_ _ | refine blk_drew ?_ | refine blk_alloc ?_ _)); exact BK262.out)) : gb313 ≠ gb262))
      have n17_ := Aside0.mk ((by rw [hg]; exact Nat.ne_of_lt (blk_lt (g := gb263) (o := .cells #[.int .i64 a2_0, .int .i64 a2_1, .int .i64 a2_2] 41 (0, 0)) (by (with_reducible repeat (first | refine blk_drewN ?_ _ | refine blk_drew ?_ | refine blk_alloc ?_ _)); exact BK263.out)) : gb263 ≠ gb313))
      have n18_ := Aside0.mk ((by rw [hg]; exact Nat.ne_of_gt (blk_lt (g := gb263) (o := .cells #[.int .i64 a2_0, .int .i64 a2_1, .int .i64 a2_2] 41 (0, 0)) (by (with_reducible repeat (first | refine blk_drewN ?_ _ | refine blk_drew ?_ | refine blk_alloc ?_ _)); exact BK263.out)) : gb313 ≠ gb263))
      have n19_ := Aside0.mk ((by rw [hg]; exact Nat.ne_of_lt (blk_lt (g := gb269) (o := .cells #[.int .i64 t265, .slice Ao17 t266.length co17] 24 (0, 0)) (by (with_reducible repeat (first | refine blk_drewN ?_ _ | refine blk_drew ?_ | refine blk_alloc ?_ _)); exact BK269.out)) : gb269 ≠ gb313))
      have n20_ := Aside0.mk ((by rw [hg]; exact Nat.ne_of_gt (blk_lt (g := gb269) (o := .cells #[.int .i64 t265, .slice Ao17 t266.length co17] 24 (0, 0)) (by (with_reducible repeat (first | refine blk_drewN ?_ _ | refine blk_drew ?_ | refine blk_alloc ?_ _)); exact BK269.out)) : gb313 ≠ gb269))
      have n21_ := Aside0.mk ((by rw [hg]; exact Nat.ne_of_lt (blk_lt (g := gb275) (o := .cells #[.int .i64 t265, u276001] 24 (0, 0)) (by (with_reducible repeat (first | refine blk_drewN ?_ _ | refine blk_drew ?_ | refine blk_alloc ?_ _)); exact BK275.out)) : gb275 ≠ gb313))
      have n22_ := Aside0.mk ((by rw [hg]; exact Nat.ne_of_gt (blk_lt (g := gb275) (o := .cells #[.int .i64 t265, u276001] 24 (0, 0)) (by (with_reducible repeat (first | refine blk_drewN ?_ _ | refine blk_drew ?_ | refine blk_alloc ?_ _)); exact BK275.out)) : gb313 ≠ gb275))
      have n23_ := Aside0.mk ((by rw [hg]; exact Nat.ne_of_lt (blk_lt (g := gb276) (o := .cells #[.int .i64 t265, u277001] 24 (0, 0)) (by (with_reducible repeat (first | refine blk_drewN ?_ _ | refine blk_drew ?_ | refine blk_alloc ?_ _)); exact BK276.out)) : gb276 ≠ gb313))
      have n24_ := Aside0.mk ((by rw [hg]; exact Nat.ne_of_gt (blk_lt (g := gb276) (o := .cells #[.int .i64 t265, u277001] 24 (0, 0)) (by (with_reducible repeat (first | refine blk_drewN ?_ _ | refine blk_drew ?_ | refine blk_alloc ?_ _)); exact BK276.out)) : gb313 ≠ gb276))
      clear HO_270001
      clear HO_276001
      clear HO_277001
      clear HO305
      clear HO308
      clear HO312
      clear BK262
      clear BK263
      clear BK269
      clear BK275
      clear BK276
      clear HB
      have HO_270001 := n0_
      have HO_276001 := n1_
      have HO_277001 := n2_
      have HO305 := n3_
      have HO308 := n4_
      have HO312 := n5_
      have BK262 := n6_
      have BK263 := n7_
      have BK269 := n8_
      have BK275 := n9_
      have BK276 := n10_
      have HB := n11_
      have BK313 := n12_
      have GW313 := n13_
      have GE313 := n14_
      have NB262_313 := n15_
      have NB313_262 := n16_
      have NB263_313 := n17_
      have NB313_263 := n18_
      have NB269_313 := n19_
      have NB313_269 := n20_
      have NB275_313 := n21_
      have NB313_275 := n22_
      have NB276_313 := n23_
      have NB313_276 := n24_
      clear n0_ n1_ n2_ n3_ n4_ n5_ n6_ n7_ n8_ n9_ n10_ n11_ n12_ n13_ n14_ n15_ n16_ n17_ n18_ n19_ n20_ n21_ n22_ n23_ n24_
      clear hb hbox hg
      refine hK.out _ _ ⟨(blk_cell BK269.out 0).trans rfl, (blk_cell BK269.out 1).trans rfl, (blk_cell BK263.out 0).trans rfl, (blk_cell BK263.out 1).trans rfl, (blk_cell BK263.out 2).trans rfl⟩ (fun hHeld => ?_)
      clear hK K
      refine norm_ (a' := ?_) ?_ ?_
      rotate_left
      · show Act.put _ (some 17) _ = _
        simp only [Act.put, List.setIfInBounds_toArray, List.set_cons_zero, List.set_cons_succ, i64_w, i32_w]
        rfl
      exact norm_ (by first | (simp only [putAll, Act.put, List.setIfInBounds_toArray, List.set_cons_zero, List.set_cons_succ]; done) | (simp only [putAll, Act.put, List.setIfInBounds_toArray, List.set_cons_zero, List.set_cons_succ]; rfl)) (hJ5_7_8_10_11 (v301, v304, .slice Ao148 y306.length co148, v311, gb313) _ ⟨hHeld, (by (with_reducible repeat (first | apply Kd.R_alloc | apply Kd.R_drewN | apply Kd.R_drew)); exact HO305.out), (by (with_reducible repeat (first | apply Kd.R_alloc | apply Kd.R_drewN | apply Kd.R_drew)); exact HO308.out), (by (with_reducible repeat (first | apply Kd.R_alloc | apply Kd.R_drewN | apply Kd.R_drew)); exact HO312.out), (by (with_reducible repeat (first | apply Kd.R_alloc | apply Kd.R_drewN | apply Kd.R_drew)); exact HO_270001.out), (by (with_reducible repeat (first | apply Kd.R_alloc | apply Kd.R_drewN | apply Kd.R_drew)); exact HO_276001.out), (by (with_reducible repeat (first | apply Kd.R_alloc | apply Kd.R_drewN | apply Kd.R_drew)); exact HO_277001.out), (by (with_reducible repeat (first | refine blk_drewN ?_ _ | refine blk_drew ?_ | refine blk_alloc ?_ _)); exact BK262.out), (by (with_reducible repeat (first | refine blk_drewN ?_ _ | refine blk_drew ?_ | refine blk_alloc ?_ _)); exact BK263.out), (by (with_reducible repeat (first | refine blk_drewN ?_ _ | refine blk_drew ?_ | refine blk_alloc ?_ _)); exact BK269.out), (by (with_reducible repeat (first | refine blk_drewN ?_ _ | refine blk_drew ?_ | refine blk_alloc ?_ _)); exact BK275.out), (by (with_reducible repeat (first | refine blk_drewN ?_ _ | refine blk_drew ?_ | refine blk_alloc ?_ _)); exact BK276.out), (by (with_reducible repeat (first | refine blk_drewN ?_ _ | refine blk_drew ?_ | refine blk_alloc ?_ _)); exact BK313.out), GW313.out, GE313.out, NB262_313.out, NB313_262.out, NB263_313.out, NB313_263.out, NB269_313.out, NB313_269.out, NB275_313.out, NB313_275.out, NB276_313.out, NB313_276.out, (by repeat (first | (with_reducible first | exact HB.out | apply below_alloc | apply pw_below_drewN | apply below_drew1 | refine below_set ?_ GE262.out | refine below_set ?_ GE263.out | refine below_set ?_ GE269.out | refine below_set ?_ GE275.out | refine below_set ?_ GE276.out | refine below_set ?_ GE313.out) | exact HB.out))⟩)
  rintro ⟨v301, v304, v307, v311, gb313⟩ w148 ⟨hS_, h0_, h1_, h2_, h3_, h4_, h5_, h6_, h7_, h8_, h9_, h10_, h11_, h12_, h13_, h14_, h15_, h16_, h17_, h18_, h19_, h20_, h21_, h22_, h23_, h24_⟩
  have n0_ : Aside0 (Kd.R k41 41 w148 w.heap.size (fun k_ => some k_ ≠ (v307 : Value).ownBlock ∧ some k_ ≠ (v311 : Value).ownBlock ∧ some k_ ≠ (.slice Ao17 t266.length co17 : Value).ownBlock ∧ some k_ ≠ (u276001 : Value).ownBlock ∧ some k_ ≠ (u277001 : Value).ownBlock ∧ k_ ≠ gb263) v304 y303) := ⟨h0_⟩
  have n1_ : Aside0 (Kd.R k41 41 w148 w.heap.size (fun k_ => some k_ ≠ (v304 : Value).ownBlock ∧ some k_ ≠ (v311 : Value).ownBlock ∧ some k_ ≠ (.slice Ao17 t266.length co17 : Value).ownBlock ∧ some k_ ≠ (u276001 : Value).ownBlock ∧ some k_ ≠ (u277001 : Value).ownBlock ∧ k_ ≠ gb263) v307 y306) := ⟨h1_⟩
  have n2_ : Aside0 (Kd.R k41 41 w148 w.heap.size (fun k_ => some k_ ≠ (v304 : Value).ownBlock ∧ some k_ ≠ (v307 : Value).ownBlock ∧ some k_ ≠ (.slice Ao17 t266.length co17 : Value).ownBlock ∧ some k_ ≠ (u276001 : Value).ownBlock ∧ some k_ ≠ (u277001 : Value).ownBlock ∧ k_ ≠ gb263) v311 t310) := ⟨h2_⟩
  have n3_ : Aside0 (Kd.R k41 41 w148 w.heap.size (fun k_ => some k_ ≠ (v304 : Value).ownBlock ∧ some k_ ≠ (v307 : Value).ownBlock ∧ some k_ ≠ (v311 : Value).ownBlock ∧ some k_ ≠ (u276001 : Value).ownBlock ∧ some k_ ≠ (u277001 : Value).ownBlock ∧ k_ ≠ gb263) (.slice Ao17 t266.length co17) t266) := ⟨h3_⟩
  have n4_ : Aside0 (Kd.R k41 41 w148 w.heap.size (fun k_ => some k_ ≠ (v304 : Value).ownBlock ∧ some k_ ≠ (v307 : Value).ownBlock ∧ some k_ ≠ (v311 : Value).ownBlock ∧ some k_ ≠ (.slice Ao17 t266.length co17 : Value).ownBlock ∧ some k_ ≠ (u277001 : Value).ownBlock ∧ k_ ≠ gb263) u276001 x276001_1) := ⟨h4_⟩
  have n5_ : Aside0 (Kd.R k41 41 w148 w.heap.size (fun k_ => some k_ ≠ (v304 : Value).ownBlock ∧ some k_ ≠ (v307 : Value).ownBlock ∧ some k_ ≠ (v311 : Value).ownBlock ∧ some k_ ≠ (.slice Ao17 t266.length co17 : Value).ownBlock ∧ some k_ ≠ (u276001 : Value).ownBlock ∧ k_ ≠ gb263) u277001 x277001_1) := ⟨h5_⟩
  have n6_ : Aside0 (w148.heap[gb262]? = some (.cells #[.int .i64 a0_0, .slice A0_1 l0_1.length c0_1] 24 (0, 0))) := ⟨h6_⟩
  have n7_ : Aside0 (w148.heap[gb263]? = some (.cells #[.int .i64 a2_0, .int .i64 a2_1, .int .i64 a2_2] 41 (0, 0))) := ⟨h7_⟩
  have n8_ : Aside0 (w148.heap[gb269]? = some (.cells #[.int .i64 t265, .slice Ao17 t266.length co17] 24 (0, 0))) := ⟨h8_⟩
  have n9_ : Aside0 (w148.heap[gb275]? = some (.cells #[.int .i64 t265, u276001] 24 (0, 0))) := ⟨h9_⟩
  have n10_ : Aside0 (w148.heap[gb276]? = some (.cells #[.int .i64 t265, u277001] 24 (0, 0))) := ⟨h10_⟩
  have n11_ : Aside0 (w148.heap[gb313]? = some (.cells #[.int .i64 0, .slice none 0 0] 24 (0, 0))) := ⟨h11_⟩
  have n12_ : Aside0 (w.heap.size ≤ gb313) := ⟨h12_⟩
  have n13_ : Aside0 (w.heap.size ≤ gb313) := ⟨h13_⟩
  have n14_ : Aside0 (gb262 ≠ gb313) := ⟨h14_⟩
  have n15_ : Aside0 (gb313 ≠ gb262) := ⟨h15_⟩
  have n16_ : Aside0 (gb263 ≠ gb313) := ⟨h16_⟩
  have n17_ : Aside0 (gb313 ≠ gb263) := ⟨h17_⟩
  have n18_ : Aside0 (gb269 ≠ gb313) := ⟨h18_⟩
  have n19_ : Aside0 (gb313 ≠ gb269) := ⟨h19_⟩
  have n20_ : Aside0 (gb275 ≠ gb313) := ⟨h20_⟩
  have n21_ : Aside0 (gb313 ≠ gb275) := ⟨h21_⟩
  have n22_ : Aside0 (gb276 ≠ gb313) := ⟨h22_⟩
  have n23_ : Aside0 (gb313 ≠ gb276) := ⟨h23_⟩
  have n24_ : Aside0 (Below w.heap.size w w148) := ⟨h24_⟩
  clear HO_270001
  clear HO_276001
  clear HO_277001
  clear BK262
  clear BK263
  clear BK269
  clear BK275
  clear BK276
  clear HB
  clear h0_ h1_ h2_ h3_ h4_ h5_ h6_ h7_ h8_ h9_ h10_ h11_ h12_ h13_ h14_ h15_ h16_ h17_ h18_ h19_ h20_ h21_ h22_ h23_ h24_
  have HO305 := n0_
  have HO308 := n1_
  have HO312 := n2_
  have HO_270001 := n3_
  have HO_276001 := n4_
  have HO_277001 := n5_
  have BK262 := n6_
  have BK263 := n7_
  have BK269 := n8_
  have BK275 := n9_
  have BK276 := n10_
  have BK313 := n11_
  have GW313 := n12_
  have GE313 := n13_
  have NB262_313 := n14_
  have NB313_262 := n15_
  have NB263_313 := n16_
  have NB313_263 := n17_
  have NB269_313 := n18_
  have NB313_269 := n19_
  have NB275_313 := n20_
  have NB313_275 := n21_
  have NB276_313 := n22_
  have NB313_276 := n23_
  have HB := n24_
  clear n0_ n1_ n2_ n3_ n4_ n5_ n6_ n7_ n8_ n9_ n10_ n11_ n12_ n13_ n14_ n15_ n16_ n17_ n18_ n19_ n20_ n21_ n22_ n23_ n24_
  have hHeld : w148.cell? ⟨gb269, 0, none⟩ = some (.int .i64 t265) ∧ w148.cell? ⟨gb269, 1, none⟩ = some (.slice Ao17 t266.length co17) ∧ w148.cell? ⟨gb263, 0, none⟩ = some (.int .i64 a2_0) ∧ w148.cell? ⟨gb263, 1, none⟩ = some (.int .i64 a2_1) ∧ w148.cell? ⟨gb263, 2, none⟩ = some (.int .i64 a2_2) := hS_
  obtain ⟨Ao149, co149, eo149⟩ := Kd.R_slice HO308.out
  (first | subst eo149 | (injection eo149 with f1_ f2_ f3_; have f4_ := f1_.symm; have f5_ := f3_.symm; clear f1_ f2_ f3_; subst f4_; subst f5_))
  obtain ⟨Ao151, co151, eo151⟩ := Kd.R_slice HO312.out
  (first | subst eo151 | (injection eo151 with f1_ f2_ f3_; have f4_ := f1_.symm; have f5_ := f3_.symm; clear f1_ f2_ f3_; subst f4_; subst f5_))
  refine norm_ (a' := ?_) ?_ ?_
  rotate_left
  · simp only [putAll, Act.put, List.setIfInBounds_toArray, List.set_cons_zero, List.set_cons_succ]
    rfl
  refine one_ (i := 12) (N := none) #[true, true, true, true, true, true, true, true, true, true, true, true, true] rfl rfl (one_of HT_.out (by kernel_rfl)) (by decide) (fun K hK => ?_)
  have hs150 : w148.cell? ⟨gb313, 0, none⟩ = some (.int .i64 0) := (blk_cell BK313.out 0).trans rfl
  have hfs150 := blk_frozen BK313.out 0
  have hns150_0 := NB262_313.out
  have hns150_1 := NB263_313.out
  have hns150_2 := NB269_313.out
  have hns150_3 := NB275_313.out
  have hns150_4 := NB276_313.out
  have hms150_0 := NB313_262.out
  have hms150_1 := NB313_263.out
  have hms150_2 := NB313_269.out
  have hms150_3 := NB313_275.out
  have hms150_4 := NB313_276.out
  have hs152 : w148.cell? ⟨gb313, 1, none⟩ = some (.slice none 0 0) := (blk_cell BK313.out 1).trans rfl
  have hfs152 := blk_frozen BK313.out 1
  have hns152_0 := NB262_313.out
  have hns152_1 := NB263_313.out
  have hns152_2 := NB269_313.out
  have hns152_3 := NB275_313.out
  have hns152_4 := NB276_313.out
  have hms152_0 := NB313_262.out
  have hms152_1 := NB313_263.out
  have hms152_2 := NB313_269.out
  have hms152_3 := NB313_275.out
  have hms152_4 := NB313_276.out
  refine skip_ (w1 := ?_) (by rfl) rfl ?_ ?_
  rotate_left
  · go_simp
    rfl
  refine hK.out _ _ ⟨((cell_far (p := ⟨gb313, _, none⟩) NB269_313.out _).trans (((cell_far (p := ⟨gb313, _, none⟩) NB269_313.out _).trans (hHeld.1)))), ((cell_far (p := ⟨gb313, _, none⟩) NB269_313.out _).trans (((cell_far (p := ⟨gb313, _, none⟩) NB269_313.out _).trans (hHeld.2.1)))), ((cell_far (p := ⟨gb313, _, none⟩) NB263_313.out _).trans (((cell_far (p := ⟨gb313, _, none⟩) NB263_313.out _).trans (hHeld.2.2.1)))), ((cell_far (p := ⟨gb313, _, none⟩) NB263_313.out _).trans (((cell_far (p := ⟨gb313, _, none⟩) NB263_313.out _).trans (hHeld.2.2.2.1)))), ((cell_far (p := ⟨gb313, _, none⟩) NB263_313.out _).trans (((cell_far (p := ⟨gb313, _, none⟩) NB263_313.out _).trans (hHeld.2.2.2.2))))⟩ (fun hHeld => ?_)
  clear hK K
  refine done_ (done_of HT_.out (by kernel_rfl)) ?_
  exact hQ_ v301 v304 Ao149 co149 Ao151 co151 gb313 w148 HO305 HO308 HO312 HO_270001 HO_276001 HO_277001 BK262 BK263 BK269 BK275 BK276 BK313 GW313 GE313 NB262_313 NB313_262 NB263_313 NB313_263 NB269_313 NB313_269 NB275_313 NB313_275 NB276_313 NB313_276 HB
end Go.Proofs.Ytfmfojogcghkkaa.P
