/-
  Rows of integers as they are handed in: slices taken apart; their lengths bounded by what is read.
  Rows of rows as they are handed in: taken apart; their lengths bounded by what is read.
  A row, and rows of rows, as this program's laws are handed them.
-/
import Derived.Test.YtiebflipijcnfaaGreatClose
import Derived.SizedLaws
import Derived.Test.YtiebflipijcnfaaGreatGO
import Derived.Deep.Matrix
namespace Go.Rt
open Go Go.RowKit Go.Proofs Go.WideShapes Go.ChangeShapes
section
variable {H:Type} {enc:TypeId × Value→H} {P:Program} {W:World} {base:Nat}
theorem open_row_cell {t e:TypeId} {v:Value} {n:Nat} {y:DataW H × List MemPlace} (ht:P.underlying t=some (.slice e)) (he:P.underlying e=some (.int .i64)) (hc:P.cellsOf e=1)
    (ho:Cell.okWide P W .any base t v) (h:DataW.trod enc P W 0 (fun _=>true) true n t [v]=some y):
    ∃ a l c xs,v=.slice a l c∧Iw 0 W.heap.size W a l c xs∧∀ M,(∀ x ∈ y.1.weights P t,x≤M)→l*P.bytesOf e≤M:=by
  have ho':Value.okWide P W .any base t v:=by simp only[Value.okWide,ht];exact ho
  obtain⟨a0,len0,cap0,rfl⟩:=okWide_slice ht ho'
  rcases open_ints ht he hc h with ⟨hcs,-⟩ | ⟨a,len,cap,zs,hcs,-,hl,hm,hz,hx,hcell,hwz⟩
  · simp at hcs
    obtain⟨rfl,rfl,rfl⟩:=hcs
    exact⟨none,0,0,[],rfl,Iw.nil _ _ _,fun M _=>by rw[Nat.zero_mul];exact Nat.zero_le _⟩
  · simp only[if_true]at hz
    have hcs':Value.slice a0 len0 cap0=.slice (some a) len cap:=by simpa using hcs
    obtain⟨rfl,rfl,rfl⟩:=Value.slice.inj hcs'
    have hsp:a.spot=none:=by
      simp only[Value.okWide,ht,Cell.okWide,Cell.ok]at ho'
      exact ho'.2.2.2.1
    obtain⟨b,o,sp⟩:=a
    obtain rfl:sp=none:=hsp
    have hlen:(zs.take len0).length=len0:=by rw[List.length_take];omega
    have hat:∀ i,i < len0→atL (zs.take len0) i=zs.getD i 0:=fun i hi=>by
      unfold atL
      rw[List.getD_eq_getElem?_getD,List.getD_eq_getElem?_getD,List.getElem?_take,if_pos hi]
    have hce:∀ i,i < len0→W.cell? ⟨b,o+i,none⟩=some (.int .i64 (atL (zs.take len0) i)):=fun i hi=>by
      have h1:=hcell i (by omega)
      rw[Go.WideShapes.add_plain]at h1
      rw[h1,hat i hi]
    refine⟨_,_,_,zs.take len0,rfl,⟨hlen,⟨b,o,⟨.inl rfl,hl,hm,hce⟩,fun hn=>⟨Nat.zero_le _,?_⟩⟩,fun x hx'=>?_⟩,fun M hM=>?_⟩
    · have:=World.block_lt_of_cell? W _ (hce 0 hn)
      simpa using this
    · have:=hwz x (List.mem_of_mem_take hx')
      simp[Lit.wf,IntKind.min,IntKind.max,IntKind.signed,IntKind.bits]at this
      exact⟨by omega,by omega⟩
    · have h1:=hM ((lits .i64 (zs.take len0):List (DataW H)).length*P.bytesOf e+(lits .i64 (zs.drop len0):List (DataW H)).length*P.bytesOf e) (by rw[hx];simp[DataW.weights,ht,Nat.add_mul])
      have h2:(lits .i64 (zs.take len0):List (DataW H)).length=len0:=by simpa [lits] using hlen
      rw[h2]at h1
      omega
end
end Go.Rt
namespace Go.Rt
open Go Go.RowKit Go.Proofs Go.WideShapes Go.ChangeShapes Go.Deep
section
variable {H:Type} {enc:TypeId × Value→H} {P:Program} {W:World} {base:Nat}
end
end Go.Rt
namespace Go.Rt
open Go Go.RowKit Go.Proofs Go.WideShapes Go.ChangeShapes
end Go.Rt
