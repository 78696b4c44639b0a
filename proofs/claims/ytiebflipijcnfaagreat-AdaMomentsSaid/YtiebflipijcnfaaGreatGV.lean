/-
  Pairs of whole numbers as they are handed in: arrays of two by value, taken apart.
  Arrays of bytes as they are handed in: two and four, by value, taken apart.
-/
import Derived.Test.YtiebflipijcnfaaGreatClose
import Derived.Lib.SmallJoins
namespace Go.Rt
open Go.RowKit Go.WideShapes Go.ChangeShapes
section
variable {H:Type} {enc:TypeId × Value→H} {P:Program} {W:World} {base:Nat}
theorem trod_array2 {b0:Nat} {spare:Nat→Bool} {held:Bool} {t e:TypeId} {fuel:Nat} {c0 c1:Value} {x:DataW H × List MemPlace} (ht:P.underlying t=some (.array 2 e)) (hce:P.cellsOf e=1)
    (h:DataW.trod enc P W b0 spare held fuel t [c0,c1]=some x):
    ∃ y0 y1 n,DataW.trod enc P W b0 spare held n e [c0]=some y0∧DataW.trod enc P W b0 spare held n e [c1]=some y1:=by
  cases fuel with
  | zero=>simp[DataW.trod]at h
  | succ n=>
    unfold DataW.trod at h
    rw[ht]at h
    have r2:List.range 2=[0,1]:=rfl
    simp[r2,hce]at h
    obtain⟨_,h⟩:=h
    cases h0:DataW.trod enc P W b0 spare held n e [c0]with
    | none=>simp[h0]at h
    | some y0=>
      cases h1:DataW.trod enc P W b0 spare held n e [c1]with
      | none=>simp[h0,h1]at h
      | some y1=>exact⟨y0,y1,n,h0,h1⟩
end
end Go.Rt
namespace Go.Rt
open Go.RowKit Go.WideShapes Go.ChangeShapes
section
variable {H:Type} {enc:TypeId × Value→H} {P:Program} {W:World} {base:Nat}
theorem trod_array4 {b0:Nat} {spare:Nat→Bool} {held:Bool} {t e:TypeId} {fuel:Nat} {c0 c1 c2 c3:Value} {x:DataW H × List MemPlace} (ht:P.underlying t=some (.array 4 e)) (hce:P.cellsOf e=1)
    (h:DataW.trod enc P W b0 spare held fuel t [c0,c1,c2,c3]=some x):
    ∃ y0 y1 y2 y3 n,DataW.trod enc P W b0 spare held n e [c0]=some y0∧DataW.trod enc P W b0 spare held n e [c1]=some y1∧DataW.trod enc P W b0 spare held n e [c2]=some y2∧DataW.trod enc P W b0 spare held n e [c3]=some y3:=by
  cases fuel with
  | zero=>simp[DataW.trod]at h
  | succ n=>
    unfold DataW.trod at h
    rw[ht]at h
    have r4:List.range 4=[0,1,2,3]:=rfl
    simp[r4,hce]at h
    obtain⟨_,h⟩:=h
    cases h0:DataW.trod enc P W b0 spare held n e [c0]with
    | none=>simp[h0]at h
    | some y0=>
      cases h1:DataW.trod enc P W b0 spare held n e [c1]with
      | none=>simp[h0,h1]at h
      | some y1=>
        cases h2:DataW.trod enc P W b0 spare held n e [c2]with
        | none=>simp[h0,h1,h2]at h
        | some y2=>
          cases h3:DataW.trod enc P W b0 spare held n e [c3]with
          | none=>simp[h0,h1,h2,h3]at h
          | some y3=>exact⟨y0,y1,y2,y3,n,h0,h1,h2,h3⟩
end
end Go.Rt
