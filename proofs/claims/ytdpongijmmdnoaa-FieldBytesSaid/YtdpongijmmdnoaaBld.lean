/- Structs and arrays built of parts. Over any program. -/
import Derived.Test.YtdpongijmmdnoaaReg
namespace Go.Proofs.Ytdpongijmmdnoaa
open Go.RowKit

theorem foldl_put (off : Nat) : ∀ (vs : List Value) (k : Nat) (cells : Array Value), off + k + vs.length ≤ cells.size →
    ((vs.zipIdx k).foldl (fun cs (x : Value × Nat) => cs.setIfInBounds (off + x.2) x.1) cells).toList = cells.toList.take (off + k) ++ vs ++ cells.toList.drop (off + k + vs.length)
  | [], k, cells, _ => by simp
  | v :: vs, k, cells, h => by
    simp only [List.length_cons] at h
    rw [List.zipIdx_cons, List.foldl_cons, foldl_put off vs (k + 1) _ (by simp; omega)]
    simp only [Array.toList_setIfInBounds]
    have := list_seg_step cells.toList (off + k) v vs (by simp; omega)
    simpa [Nat.add_assoc] using this

/-- one part of a build -/
theorem fill_one {place : Nat → Option (Nat × Nat)} {cells : List Value} {i off : Nat} {v : Value} {vs : List Value} {rest : List (Nat × Value)}
    (hp : place i = some (off, vs.length)) (hv : v.cells = vs.toArray) (hle : off + vs.length ≤ cells.length) :
    Instr.fill place cells.toArray ((i, v) :: rest) = Instr.fill place (cells.take off ++ vs ++ cells.drop (off + vs.length)).toArray rest := by
  have e := foldl_put off vs 0 cells.toArray (by simpa using hle)
  simp only [Nat.add_zero] at e
  have e' : (vs.toArray.zipIdx.foldl (fun cs (x : Value × Nat) => cs.setIfInBounds (off + x.2) x.1) cells.toArray) = (cells.take off ++ vs ++ cells.drop (off + vs.length)).toArray := by
    apply Array.ext'
    rw [← Array.foldl_toList]
    simpa using e
  conv => lhs; rw [Instr.fill]
  simp only [hp, hv, List.size_toArray]
  rw [if_neg (by simp; omega)]
  exact congrArg (fun z => Instr.fill place z rest) e'

theorem run_build_struct {P : Program} {ty : TypeId} {fields : Array Field} {places : Array (Nat × Nat)} {zs out : List Value} {pv : List (Nat × Value)}
    (hz : ∀ W : World, (zeroValue ty).run P W = .ok (.agg zs.toArray) W) (hu : P.underlying ty = some (.struct fields))
    (hpl : ∀ W : World, (fields.mapM (fun f => (do pure (f.offset, ← sizeOf f.type) : Sem (Nat × Nat)))).run P W = .ok places W)
    (hf : Instr.fill (places[·]?) zs.toArray pv = some out.toArray) (W : World) : (Instr.build ty pv.toArray).run P W = .ok (AG out) W := by
  unfold Instr.build
  simp only [Sem.run_bind, hz, Result.andThen_ok, Value.cells, run_underlying hu, hpl, hf, Sem.run_pure]
  rfl

theorem put_all (xs vs : List Value) (n : Nat) (h : vs.length = n) (h' : xs.length = n) : vs = xs.take 0 ++ vs ++ xs.drop (0 + vs.length) := by simp [h, h']
theorem cut_all (c : List Value) (n : Nat) (h : c.length = n) : AG c = .agg ((c.drop 0).take n).toArray := by simp [AG, ← h]

section
variable {P : Program} {ops : Array Oper} {rest : List Oper} {o : Oper} {a : Act} {w : World} {Q : Exit → Act → World → Prop} {S : World → Prop}

theorem wpList_build (hgd : o.guard = none) (ty : TypeId) (ps : List (Nat × Operand)) (ho : o.op = .build ty ps.toArray) (pv : List (Nat × Value))
    (hpv : ps.map (fun x => (x.1, a.eval x.2)) = pv) (v : Value) (hb : ∀ W : World, (Instr.build ty pv.toArray).run P W = .ok v W)
    (h : wpList P ops Q rest (a.put o.dst v) w) : wpList P ops Q (o :: rest) a w := by
  refine wpList_plain hgd fun _ hK => ?_
  unfold Oper.wp execOp
  simp only [ho, List.map_toArray, hpv, Sem.run_bind, hb, Result.andThen_ok, Sem.run_pure]
  exact hK _ _ h

theorem runOrd_build {i : Nat} {r : List (Nat × Bool)} {a : Act} {w : World} {o : Oper} (ho : ops[i]? = some o)
    (hw : Region.wanted o (yielded ops a.tmps) = true) (ty : TypeId) (ps : List (Nat × Operand)) (hop : o.op = .build ty ps.toArray) (pv : List (Nat × Value))
    (hpv : ps.map (fun x => (x.1, a.eval x.2)) = pv) (v : Value) (hb : ∀ W : World, (Instr.build ty pv.toArray).run P W = .ok v W)
    (h : RunOrd P ops Q S r (a.put o.dst v) w) : RunOrd P ops Q S ((i, true) :: r) a w :=
  runOrd_quiet ho hw (fun w' _ => by
    unfold execOp
    simp only [hop, List.map_toArray, hpv, Sem.run_bind, hb, Result.andThen_ok, Sem.run_pure]) h
end
end Go.Proofs.Ytdpongijmmdnoaa
