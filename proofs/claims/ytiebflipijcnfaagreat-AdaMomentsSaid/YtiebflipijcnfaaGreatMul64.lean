/-
  math/bits: Mul64 (its lines after the shelf's own proof), Add64, Sub64.
-/
import Derived.Shelf.Bits.Mul64
import Derived.Shelf.Spec.BitsCarry
import Derived.Test.YtiebflipijcnfaaGreatBits
namespace Go.Rt
open Go.RowKit Go.Shelf Go.Proofs Go.Lib
set_option maxHeartbeats 1000000 in
theorem Tryz.mul64N (x y:Nat) (hx:x < 18446744073709551616) (hy:y < 18446744073709551616) (w:World):
    Calls Tryz.prog 104 #[.int .u64 (x:Int),.int .u64 (y:Int)] w fun e w'=>e=.returned (.tuple #[.int .u64 ((x*y / 18446744073709551616:Nat):Int),.int .u64 ((x*y % 18446744073709551616:Nat):Int)])∧w'=w:=by
  obtain⟨bd,bt,bw,hhi⟩:=Lib.mul64_hi x y hx hy
  have ba:=Lib.half_mul_le (a:=x / 4294967296) (b:=y / 4294967296) (by omega) (by omega)
  have bb:=Lib.half_mul_le (a:=x / 4294967296) (b:=y % 4294967296) (by omega) (by omega)
  have bc:=Lib.half_mul_le (a:=x % 4294967296) (b:=y / 4294967296) (by omega) (by omega)
  have ba':x / 4294967296*(y / 4294967296) < 18446744073709551616:=by omega
  have bb':x / 4294967296*(y % 4294967296) < 18446744073709551616:=by omega
  have bc':x % 4294967296*(y / 4294967296) < 18446744073709551616:=by omega
  have bh1:x / 4294967296*(y / 4294967296)+(x / 4294967296*(y % 4294967296)+x % 4294967296*(y % 4294967296) / 4294967296) / 4294967296 < 18446744073709551616:=by omega
  have bh:x / 4294967296*(y / 4294967296)+(x / 4294967296*(y % 4294967296)+x % 4294967296*(y % 4294967296) / 4294967296) / 4294967296+((x / 4294967296*(y % 4294967296)+x % 4294967296*(y % 4294967296) / 4294967296) % 4294967296+x % 4294967296*(y / 4294967296)) / 4294967296 < 18446744073709551616:=by omega
  go_enter Tryz.func104,Tryz.ntmps104
  go_wp2
  -- the walk's numbers, folded from the inside out: each step of the school method is a natural number that does not wrap
  simp only[Mul64.maskN x hx,Mul64.maskN y hy,Mul64.divN,Mul64.mulN,Mul64.addN,Mul64.wrapN _ bd,Mul64.wrapN _ bb',Mul64.wrapN _ bt,Mul64.maskN _ bt,Mul64.wrapN _ bc',Mul64.wrapN _ bw,Mul64.wrapN _ ba',Mul64.wrapN _ bh1,Mul64.wrapN _ bh,Mul64.wrapM (x*y)]
  rw[hhi]
  go_ret2
  exact⟨rfl,rfl⟩
theorem Tryz.mul64 {x y h l:Nat} (hx:x < B64) (hy:y < B64) (hh:h=x*y / B64) (hl:l=x*y % B64) (w:World):
    Calls Tryz.prog 104 #[.int .u64 (x:Int),.int .u64 (y:Int)] w fun e w'=>w=w'∧e=.returned (.tuple #[.int .u64 (h:Int),.int .u64 (l:Int)]):=by
  subst hh
  subst hl
  rw[B64_eq]at hx hy
  refine(Tryz.mul64N x y hx hy w).mono ?_
  rintro e w' ⟨rfl,rfl⟩
  exact⟨rfl,rfl⟩
theorem Tryz.add64 {x y c s d:Nat} (hc:c≤1) (hs:s=(x+y+c) % B64) (hd:d=(x+y+c) / B64) (w:World):
    (callFunc 105 #[.int .u64 (x:Int),.int .u64 (y:Int),.int .u64 (c:Int)]).run Tryz.prog w=.ok (.value (.tuple #[.int .u64 (s:Int),.int .u64 (d:Int)])) w:=by
  rw[run_callFunc_extern Tryz.func105 (by kernel_rfl) (by kernel_rfl) (by kernel_rfl) (e:=add64Entry) (by kernel_rfl),run_add64 x y c (by omega) (by omega) (by omega) (by omega)]
  simp only[Result.andThen]
  subst hs
  subst hd
  rw[B64_eq]
  congr 5 <;> omega
theorem Tryz.sub64 {x y b s d:Nat} (hx:x < B64) (hy:y < B64) (hb:b≤1) (hs:s+y+b=x+B64*d) (hsb:s < B64) (hd:d≤1) (w:World):
    (callFunc 106 #[.int .u64 (x:Int),.int .u64 (y:Int),.int .u64 (b:Int)]).run Tryz.prog w=.ok (.value (.tuple #[.int .u64 (s:Int),.int .u64 (d:Int)])) w:=by
  rw[run_callFunc_extern Tryz.func106 (by kernel_rfl) (by kernel_rfl) (by kernel_rfl) (e:=sub64Entry) (by kernel_rfl),run_sub64 x y b hb]
  simp only[Result.andThen]
  rw[B64_eq]at *
  have e1:(x+18446744073709551616 - y - b) % 18446744073709551616=s:=by omega
  have e2:(if x < y+b then 1 else 0)=d:=by split <;> omega
  rw[e1,e2]
end Go.Rt
