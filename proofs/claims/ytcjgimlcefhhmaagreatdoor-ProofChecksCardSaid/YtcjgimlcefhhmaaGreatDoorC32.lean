/- Texts: PyP. -/
import Derived.Lib.ItoaNum
import Derived.Lib.Index
import Derived.Lib.Join
import Derived.Test.YtcjgimlcefhhmaaGreatDoorC1
set_option linter.unusedVariables false
set_option linter.unusedSimpArgs false
set_option maxRecDepth 100000
set_option maxHeartbeats 12800000
namespace Go.Proofs.YtcjgimlcefhhmaaGreatDoor
namespace Prf
open Go.Lib
def wSplit:List UInt8:=[115,112,108,105,116]
def wFarkas:List UInt8:=[102,97,114,107,97,115]
def exW:Nat→List (List UInt8)
 | 0=>[wSplit,[48],[48]]
 | 1=>[wSplit,[49],[48]]
 | 2=>[wFarkas,[49]]
 | 3=>[wFarkas,[45,49]]
 | 4=>[wFarkas,[45,49]]
 | _=>[]
def exJ:Nat→List UInt8
 | 0=>[115,112,108,105,116,32,48,32,48]
 | 1=>[115,112,108,105,116,32,49,32,48]
 | 2=>[102,97,114,107,97,115,32,49]
 | 3=>[102,97,114,107,97,115,32,45,49]
 | 4=>[102,97,114,107,97,115,32,45,49]
 | _=>[]
def exTx:Nat→List UInt8
 | 0=>[]
 | k+1=>exTx k ++ (exJ k ++ [10])
def exText:List UInt8:=[115,112,108,105,116,32,48,32,48,10,115,112,108,105,116,32,49,32,48,10,102,97,114,107,97,115,32,49,10,102,97,114,107,97,115,32,45,49,10,102,97,114,107,97,115,32,45,49,10]
theorem J3h:exTx 5=exText:=by decide
theorem Rc (k:Nat):(exJ k).length≤9:=by
 match k with
 | 0|1|2|3|4=>decide
 | k+5=>simp[exJ]
theorem X3:∀ k,(exTx k).length≤10 * k
 | 0=>by simp[exTx]
 | k+1=>by
  have:=X3 k;have:=Rc k;simp only[exTx,List.length_append,List.length_singleton];omega
theorem X4 (k:Nat)(a:k < 5):Lib.join (exW k) [32]=exJ k:=by
 match k,a with
 | 0,_|1,_|2,_|3,_|4,_=>decide
theorem J3i (k:Nat)(a:k < 5):(exW k).length≤3∧0 < (exW k).length:=by
 match k,a with
 | 0,_|1,_|2,_|3,_|4,_=>decide
theorem Xl:Lib.decDigits 0=[48]:=by decide +kernel
theorem J2I:Lib.decDigits 1=[49]:=by decide +kernel
def exAll:List (List UInt8):=[exJ 0,exJ 1,exJ 2,exJ 3,exJ 4]
def exRm:Nat→List UInt8
 | 0=>exText.take 48
 | 1=>(exText.take 48).drop 10
 | 2=>(exText.take 48).drop 20
 | 3=>(exText.take 48).drop 29
 | _=>(exText.take 48).drop 39
theorem J3d (k:Nat):(exRm k).length≤49:=by
 match k with
 | 0|1|2|3=>decide
 | k+4=>simp[exRm,exText]
theorem J3c (k:Nat)(a:k < 4):Lib.indexByte (exRm k) 10=((exJ k).length:Int):=by
 match k,a with
 | 0,_|1,_|2,_|3,_=>decide
theorem J3b:Lib.indexByte (exRm 4) 10 = -1:=by decide
theorem J3e (k:Nat)(a:k < 4):(⟨(exRm k).toArray⟩:ByteArray).extract 0 (exJ k).length=⟨(exJ k).toArray⟩:=by
 match k,a with
 | 0,_|1,_|2,_|3,_=>decide +kernel
theorem J3f (k:Nat)(a:k < 4):(⟨(exRm k).toArray⟩:ByteArray).extract ((exJ k).length+1) (exRm k).length=⟨(exRm (k+1)).toArray⟩:=by
 match k,a with
 | 0,_|1,_|2,_|3,_=>decide +kernel
theorem J3g (k:Nat)(a:k < 4):(exJ k).length+1≤(exRm k).length∧(exRm (k+1)).length < (exRm k).length:=by
 match k,a with
 | 0,_|1,_|2,_|3,_=>decide
theorem Rb (k:Nat)(a:k < 5):exAll.take k ++ [exJ k]=exAll.take (k+1):=by
 match k,a with
 | 0,_|1,_|2,_|3,_|4,_=>rfl
end Prf
end Go.Proofs.YtcjgimlcefhhmaaGreatDoor
