/-
  What functions tell, as terms, printed by a program of this repo.
-/
import Derived.Test.YtndfcpkmchjncaaDig
import Derived.Test.YtndfcpkmchjncaaBitsMath
namespace Go.Proofs.Ytndfcpkmchjncaa
open Go.Sx
set_option linter.unusedVariables false
set_option linter.unusedSimpArgs false
set_option maxRecDepth 100000
set_option maxHeartbeats 20000000
def btField (a0 : Int) (a1 : Int) (a2 : Int) : Int := fld a0 a1 a2
def btSigned (a0 : Int) (a1 : Int) : Int := sgn a0 a1
def btSign12 (a0 : Int) : Int := sgn a0 12 % 4294967296
def rfField (a0 : Int) (a1 : Int) (a2 : Int) : Int := fld a0 a1 a2
def rfSigned (a0 : Int) (a1 : Int) : Int := sgn a0 a1
def rvReg (a0 : Int) (a1 : Bool) : Bool :=
 bif icmp .eql a0 0 then true else
 bif a1 then (bif icmp .gtr a0 0 then icmp .lss a0 32 else false) else false
def rvParts_0 (a0 : Int) : Bool :=
 bif icmp .eql a0 1 then true else
 bif icmp .eql a0 2 then true else
 bif icmp .eql a0 3 then true else
 bif icmp .eql a0 4 then true else
 bif icmp .eql a0 5 then false else
 bif icmp .eql a0 6 then false else
 bif icmp .eql a0 7 then true else
 bif icmp .eql a0 8 then true else false
def rvParts_1 (a0 : Int) : Bool :=
 bif icmp .eql a0 1 then true else
 bif icmp .eql a0 2 then true else
 bif icmp .eql a0 3 then true else
 bif icmp .eql a0 4 then true else
 bif icmp .eql a0 5 then true else
 bif icmp .eql a0 6 then true else
 bif icmp .eql a0 7 then false else
 bif icmp .eql a0 8 then false else false
def rvParts_2 (a0 : Int) : Bool :=
 bif icmp .eql a0 1 then true else
 bif icmp .eql a0 2 then false else
 bif icmp .eql a0 3 then false else
 bif icmp .eql a0 4 then false else
 bif icmp .eql a0 5 then true else
 bif icmp .eql a0 6 then true else
 bif icmp .eql a0 7 then false else
 bif icmp .eql a0 8 then false else false
def rvNum (a0 a1 : Int) : Bool :=
 bif icmp .eql a0 2 then (let x4 : Int := (btSigned (IntKind.wrap .u32 a1) 12)
 (icmp .eql x4 a1)) else
 bif icmp .eql a0 3 then (let x5 : Int := (btSigned (IntKind.wrap .u32 a1) 12)
 (icmp .eql x5 a1)) else
 bif icmp .eql a0 5 then (let x6 : Int := (btSigned (IntKind.wrap .u32 a1) 12)
 (icmp .eql x6 a1)) else
 bif icmp .eql a0 4 then (bif icmp .geq a1 0 then icmp .lss a1 32 else false) else
 bif icmp .eql a0 6 then (let x8 : Int := (btSigned (IntKind.wrap .u32 a1) 13)
 bif icmp .eql x8 a1 then (let x11 : Bool := (icmp .eql (ibin .and .i32 a1 1) 0)
 x11) else false) else
 bif icmp .eql a0 7 then (let x9 : Bool := (icmp .eql (ibin .and .i32 a1 4095) 0)
 x9) else
 bif icmp .eql a0 8 then (let x10 : Int := (btSigned (IntKind.wrap .u32 a1) 21)
 bif icmp .eql x10 a1 then icmp .eql (ibin .and .i32 a1 1) 0 else false) else (icmp .eql a1 0)
def rvOf_0 (a0 : Int) : ByteArray :=
 bif icmp .lss a0 1 then ⟨#[]⟩ else
 bif icmp .gtr a0 47 then ⟨#[]⟩ else
 bif decide (a0 = 1) then ⟨#[108,117,105]⟩ else
 bif decide (a0 = 2) then ⟨#[97,117,105,112,99]⟩ else
 bif decide (a0 = 3) then ⟨#[106,97,108]⟩ else
 bif decide (a0 = 4) then ⟨#[106,97,108,114]⟩ else
 bif decide (a0 = 5) then ⟨#[98,101,113]⟩ else
 bif decide (a0 = 6) then ⟨#[98,110,101]⟩ else
 bif decide (a0 = 7) then ⟨#[98,108,116]⟩ else
 bif decide (a0 = 8) then ⟨#[98,103,101]⟩ else
 bif decide (a0 = 9) then ⟨#[98,108,116,117]⟩ else
 bif decide (a0 = 10) then ⟨#[98,103,101,117]⟩ else
 bif decide (a0 = 11) then ⟨#[108,98]⟩ else
 bif decide (a0 = 12) then ⟨#[108,104]⟩ else
 bif decide (a0 = 13) then ⟨#[108,119]⟩ else
 bif decide (a0 = 14) then ⟨#[108,98,117]⟩ else
 bif decide (a0 = 15) then ⟨#[108,104,117]⟩ else
 bif decide (a0 = 16) then ⟨#[115,98]⟩ else
 bif decide (a0 = 17) then ⟨#[115,104]⟩ else
 bif decide (a0 = 18) then ⟨#[115,119]⟩ else
 bif decide (a0 = 19) then ⟨#[97,100,100,105]⟩ else
 bif decide (a0 = 20) then ⟨#[115,108,116,105]⟩ else
 bif decide (a0 = 21) then ⟨#[115,108,116,105,117]⟩ else
 bif decide (a0 = 22) then ⟨#[120,111,114,105]⟩ else
 bif decide (a0 = 23) then ⟨#[111,114,105]⟩ else
 bif decide (a0 = 24) then ⟨#[97,110,100,105]⟩ else
 bif decide (a0 = 25) then ⟨#[115,108,108,105]⟩ else
 bif decide (a0 = 26) then ⟨#[115,114,108,105]⟩ else
 bif decide (a0 = 27) then ⟨#[115,114,97,105]⟩ else
 bif decide (a0 = 28) then ⟨#[97,100,100]⟩ else
 bif decide (a0 = 29) then ⟨#[115,117,98]⟩ else
 bif decide (a0 = 30) then ⟨#[115,108,108]⟩ else
 bif decide (a0 = 31) then ⟨#[115,108,116]⟩ else
 bif decide (a0 = 32) then ⟨#[115,108,116,117]⟩ else
 bif decide (a0 = 33) then ⟨#[120,111,114]⟩ else
 bif decide (a0 = 34) then ⟨#[115,114,108]⟩ else
 bif decide (a0 = 35) then ⟨#[115,114,97]⟩ else
 bif decide (a0 = 36) then ⟨#[111,114]⟩ else
 bif decide (a0 = 37) then ⟨#[97,110,100]⟩ else
 bif decide (a0 = 38) then ⟨#[109,117,108]⟩ else
 bif decide (a0 = 39) then ⟨#[109,117,108,104]⟩ else
 bif decide (a0 = 40) then ⟨#[109,117,108,104,115,117]⟩ else
 bif decide (a0 = 41) then ⟨#[109,117,108,104,117]⟩ else
 bif decide (a0 = 42) then ⟨#[100,105,118]⟩ else
 bif decide (a0 = 43) then ⟨#[100,105,118,117]⟩ else
 bif decide (a0 = 44) then ⟨#[114,101,109]⟩ else
 bif decide (a0 = 45) then ⟨#[114,101,109,117]⟩ else
 bif decide (a0 = 46) then ⟨#[101,99,97,108,108]⟩ else
 bif decide (a0 = 47) then ⟨#[101,98,114,101,97,107]⟩ else .empty
def rvOf_1 (a0 : Int) : Int :=
 bif icmp .lss a0 1 then 0 else
 bif icmp .gtr a0 47 then 0 else
 bif decide (a0 = 1) then 7 else
 bif decide (a0 = 2) then 7 else
 bif decide (a0 = 3) then 8 else
 bif decide (a0 = 4) then 2 else
 bif decide (a0 = 5) then 6 else
 bif decide (a0 = 6) then 6 else
 bif decide (a0 = 7) then 6 else
 bif decide (a0 = 8) then 6 else
 bif decide (a0 = 9) then 6 else
 bif decide (a0 = 10) then 6 else
 bif decide (a0 = 11) then 3 else
 bif decide (a0 = 12) then 3 else
 bif decide (a0 = 13) then 3 else
 bif decide (a0 = 14) then 3 else
 bif decide (a0 = 15) then 3 else
 bif decide (a0 = 16) then 5 else
 bif decide (a0 = 17) then 5 else
 bif decide (a0 = 18) then 5 else
 bif decide (a0 = 19) then 2 else
 bif decide (a0 = 20) then 2 else
 bif decide (a0 = 21) then 2 else
 bif decide (a0 = 22) then 2 else
 bif decide (a0 = 23) then 2 else
 bif decide (a0 = 24) then 2 else
 bif decide (a0 = 25) then 4 else
 bif decide (a0 = 26) then 4 else
 bif decide (a0 = 27) then 4 else
 bif decide (a0 = 28) then 1 else
 bif decide (a0 = 29) then 1 else
 bif decide (a0 = 30) then 1 else
 bif decide (a0 = 31) then 1 else
 bif decide (a0 = 32) then 1 else
 bif decide (a0 = 33) then 1 else
 bif decide (a0 = 34) then 1 else
 bif decide (a0 = 35) then 1 else
 bif decide (a0 = 36) then 1 else
 bif decide (a0 = 37) then 1 else
 bif decide (a0 = 38) then 1 else
 bif decide (a0 = 39) then 1 else
 bif decide (a0 = 40) then 1 else
 bif decide (a0 = 41) then 1 else
 bif decide (a0 = 42) then 1 else
 bif decide (a0 = 43) then 1 else
 bif decide (a0 = 44) then 1 else
 bif decide (a0 = 45) then 1 else
 bif decide (a0 = 46) then 9 else
 bif decide (a0 = 47) then 9 else 0
def rvOf_2 (a0 : Int) : Int :=
 bif icmp .lss a0 1 then 0 else
 bif icmp .gtr a0 47 then 0 else
 bif decide (a0 = 1) then 55 else
 bif decide (a0 = 2) then 23 else
 bif decide (a0 = 3) then 111 else
 bif decide (a0 = 4) then 103 else
 bif decide (a0 = 5) then 99 else
 bif decide (a0 = 6) then 99 else
 bif decide (a0 = 7) then 99 else
 bif decide (a0 = 8) then 99 else
 bif decide (a0 = 9) then 99 else
 bif decide (a0 = 10) then 99 else
 bif decide (a0 = 11) then 3 else
 bif decide (a0 = 12) then 3 else
 bif decide (a0 = 13) then 3 else
 bif decide (a0 = 14) then 3 else
 bif decide (a0 = 15) then 3 else
 bif decide (a0 = 16) then 35 else
 bif decide (a0 = 17) then 35 else
 bif decide (a0 = 18) then 35 else
 bif decide (a0 = 19) then 19 else
 bif decide (a0 = 20) then 19 else
 bif decide (a0 = 21) then 19 else
 bif decide (a0 = 22) then 19 else
 bif decide (a0 = 23) then 19 else
 bif decide (a0 = 24) then 19 else
 bif decide (a0 = 25) then 19 else
 bif decide (a0 = 26) then 19 else
 bif decide (a0 = 27) then 19 else
 bif decide (a0 = 28) then 51 else
 bif decide (a0 = 29) then 51 else
 bif decide (a0 = 30) then 51 else
 bif decide (a0 = 31) then 51 else
 bif decide (a0 = 32) then 51 else
 bif decide (a0 = 33) then 51 else
 bif decide (a0 = 34) then 51 else
 bif decide (a0 = 35) then 51 else
 bif decide (a0 = 36) then 51 else
 bif decide (a0 = 37) then 51 else
 bif decide (a0 = 38) then 51 else
 bif decide (a0 = 39) then 51 else
 bif decide (a0 = 40) then 51 else
 bif decide (a0 = 41) then 51 else
 bif decide (a0 = 42) then 51 else
 bif decide (a0 = 43) then 51 else
 bif decide (a0 = 44) then 51 else
 bif decide (a0 = 45) then 51 else
 bif decide (a0 = 46) then 115 else
 bif decide (a0 = 47) then 115 else 0
def rvOf_3 (a0 : Int) : Int :=
 bif icmp .lss a0 1 then 0 else
 bif icmp .gtr a0 47 then 0 else
 bif decide (a0 = 1) then 0 else
 bif decide (a0 = 2) then 0 else
 bif decide (a0 = 3) then 0 else
 bif decide (a0 = 4) then 0 else
 bif decide (a0 = 5) then 0 else
 bif decide (a0 = 6) then 1 else
 bif decide (a0 = 7) then 4 else
 bif decide (a0 = 8) then 5 else
 bif decide (a0 = 9) then 6 else
 bif decide (a0 = 10) then 7 else
 bif decide (a0 = 11) then 0 else
 bif decide (a0 = 12) then 1 else
 bif decide (a0 = 13) then 2 else
 bif decide (a0 = 14) then 4 else
 bif decide (a0 = 15) then 5 else
 bif decide (a0 = 16) then 0 else
 bif decide (a0 = 17) then 1 else
 bif decide (a0 = 18) then 2 else
 bif decide (a0 = 19) then 0 else
 bif decide (a0 = 20) then 2 else
 bif decide (a0 = 21) then 3 else
 bif decide (a0 = 22) then 4 else
 bif decide (a0 = 23) then 6 else
 bif decide (a0 = 24) then 7 else
 bif decide (a0 = 25) then 1 else
 bif decide (a0 = 26) then 5 else
 bif decide (a0 = 27) then 5 else
 bif decide (a0 = 28) then 0 else
 bif decide (a0 = 29) then 0 else
 bif decide (a0 = 30) then 1 else
 bif decide (a0 = 31) then 2 else
 bif decide (a0 = 32) then 3 else
 bif decide (a0 = 33) then 4 else
 bif decide (a0 = 34) then 5 else
 bif decide (a0 = 35) then 5 else
 bif decide (a0 = 36) then 6 else
 bif decide (a0 = 37) then 7 else
 bif decide (a0 = 38) then 0 else
 bif decide (a0 = 39) then 1 else
 bif decide (a0 = 40) then 2 else
 bif decide (a0 = 41) then 3 else
 bif decide (a0 = 42) then 4 else
 bif decide (a0 = 43) then 5 else
 bif decide (a0 = 44) then 6 else
 bif decide (a0 = 45) then 7 else
 bif decide (a0 = 46) then 0 else
 bif decide (a0 = 47) then 0 else 0
def rvOf_4 (a0 : Int) : Int :=
 bif icmp .lss a0 1 then 0 else
 bif icmp .gtr a0 47 then 0 else
 bif decide (a0 = 1) then 0 else
 bif decide (a0 = 2) then 0 else
 bif decide (a0 = 3) then 0 else
 bif decide (a0 = 4) then 0 else
 bif decide (a0 = 5) then 0 else
 bif decide (a0 = 6) then 0 else
 bif decide (a0 = 7) then 0 else
 bif decide (a0 = 8) then 0 else
 bif decide (a0 = 9) then 0 else
 bif decide (a0 = 10) then 0 else
 bif decide (a0 = 11) then 0 else
 bif decide (a0 = 12) then 0 else
 bif decide (a0 = 13) then 0 else
 bif decide (a0 = 14) then 0 else
 bif decide (a0 = 15) then 0 else
 bif decide (a0 = 16) then 0 else
 bif decide (a0 = 17) then 0 else
 bif decide (a0 = 18) then 0 else
 bif decide (a0 = 19) then 0 else
 bif decide (a0 = 20) then 0 else
 bif decide (a0 = 21) then 0 else
 bif decide (a0 = 22) then 0 else
 bif decide (a0 = 23) then 0 else
 bif decide (a0 = 24) then 0 else
 bif decide (a0 = 25) then 0 else
 bif decide (a0 = 26) then 0 else
 bif decide (a0 = 27) then 32 else
 bif decide (a0 = 28) then 0 else
 bif decide (a0 = 29) then 32 else
 bif decide (a0 = 30) then 0 else
 bif decide (a0 = 31) then 0 else
 bif decide (a0 = 32) then 0 else
 bif decide (a0 = 33) then 0 else
 bif decide (a0 = 34) then 0 else
 bif decide (a0 = 35) then 32 else
 bif decide (a0 = 36) then 0 else
 bif decide (a0 = 37) then 0 else
 bif decide (a0 = 38) then 1 else
 bif decide (a0 = 39) then 1 else
 bif decide (a0 = 40) then 1 else
 bif decide (a0 = 41) then 1 else
 bif decide (a0 = 42) then 1 else
 bif decide (a0 = 43) then 1 else
 bif decide (a0 = 44) then 1 else
 bif decide (a0 = 45) then 1 else
 bif decide (a0 = 46) then 0 else
 bif decide (a0 = 47) then 0 else 0
def rvOf_5 (a0 : Int) : Bool :=
 bif icmp .lss a0 1 then false else
 bif icmp .gtr a0 47 then false else
 bif decide (a0 = 1) then true else
 bif decide (a0 = 2) then true else
 bif decide (a0 = 3) then true else
 bif decide (a0 = 4) then true else
 bif decide (a0 = 5) then true else
 bif decide (a0 = 6) then true else
 bif decide (a0 = 7) then true else
 bif decide (a0 = 8) then true else
 bif decide (a0 = 9) then true else
 bif decide (a0 = 10) then true else
 bif decide (a0 = 11) then true else
 bif decide (a0 = 12) then true else
 bif decide (a0 = 13) then true else
 bif decide (a0 = 14) then true else
 bif decide (a0 = 15) then true else
 bif decide (a0 = 16) then true else
 bif decide (a0 = 17) then true else
 bif decide (a0 = 18) then true else
 bif decide (a0 = 19) then true else
 bif decide (a0 = 20) then true else
 bif decide (a0 = 21) then true else
 bif decide (a0 = 22) then true else
 bif decide (a0 = 23) then true else
 bif decide (a0 = 24) then true else
 bif decide (a0 = 25) then true else
 bif decide (a0 = 26) then true else
 bif decide (a0 = 27) then true else
 bif decide (a0 = 28) then true else
 bif decide (a0 = 29) then true else
 bif decide (a0 = 30) then true else
 bif decide (a0 = 31) then true else
 bif decide (a0 = 32) then true else
 bif decide (a0 = 33) then true else
 bif decide (a0 = 34) then true else
 bif decide (a0 = 35) then true else
 bif decide (a0 = 36) then true else
 bif decide (a0 = 37) then true else
 bif decide (a0 = 38) then true else
 bif decide (a0 = 39) then true else
 bif decide (a0 = 40) then true else
 bif decide (a0 = 41) then true else
 bif decide (a0 = 42) then true else
 bif decide (a0 = 43) then true else
 bif decide (a0 = 44) then true else
 bif decide (a0 = 45) then true else
 bif decide (a0 = 46) then true else
 bif decide (a0 = 47) then true else false
def rvIs (a0 a1 a2 a3 a4 : Int) : Bool :=
 bif (rvOf_5 a0) then (bif (rvReg a1 (rvParts_0 (rvOf_1 a0))) then (bif (rvReg a2 (rvParts_1 (rvOf_1 a0))) then (bif (rvReg a3 (rvParts_2 (rvOf_1 a0))) then rvNum (rvOf_1 a0) a4 else false) else false) else false) else false
def rvImm (a0 a1 : Int) : Int :=
 bif icmp .eql a0 2 then (let x4 : Int := (btField (IntKind.wrap .u32 a1) 0 12)
 (ibin .shl .u32 x4 20)) else
 bif icmp .eql a0 3 then (let x5 : Int := (btField (IntKind.wrap .u32 a1) 0 12)
 (ibin .shl .u32 x5 20)) else
 bif icmp .eql a0 4 then (let x6 : Int := (btField (IntKind.wrap .u32 a1) 0 12)
 (ibin .shl .u32 x6 20)) else
 bif icmp .eql a0 5 then (let x7 : Int := (btField (IntKind.wrap .u32 a1) 5 7)
 let x9 : Int := (btField (IntKind.wrap .u32 a1) 0 5)
 let x11 : Int := (ibin .or .u32 (ibin .shl .u32 x7 25) (ibin .shl .u32 x9 7))
 x11) else
 bif icmp .eql a0 6 then (let x8 : Int := (btField (IntKind.wrap .u32 a1) 12 1)
 let x10 : Int := (btField (IntKind.wrap .u32 a1) 5 6)
 let x12 : Int := (ibin .or .u32 (ibin .shl .u32 x8 31) (ibin .shl .u32 x10 25))
 let x13 : Int := (btField (IntKind.wrap .u32 a1) 1 4)
 let x15 : Int := (ibin .or .u32 x12 (ibin .shl .u32 x13 8))
 let x16 : Int := (btField (IntKind.wrap .u32 a1) 11 1)
 let x18 : Int := (ibin .or .u32 x15 (ibin .shl .u32 x16 7))
 x18) else
 bif icmp .eql a0 7 then IntKind.wrap .u32 a1 else
 bif icmp .eql a0 8 then (let x10 : Int := (btField (IntKind.wrap .u32 a1) 20 1)
 let x12 : Int := (btField (IntKind.wrap .u32 a1) 1 10)
 let x14 : Int := (ibin .or .u32 (ibin .shl .u32 x10 31) (ibin .shl .u32 x12 21))
 let x15 : Int := (btField (IntKind.wrap .u32 a1) 11 1)
 let x17 : Int := (ibin .or .u32 x14 (ibin .shl .u32 x15 20))
 let x18 : Int := (btField (IntKind.wrap .u32 a1) 12 8)
 (ibin .or .u32 x17 (ibin .shl .u32 x18 12))) else 0
def rvEnc_0 (a0 a1 a2 a3 a4 : Int) : Int :=
 bif (rvIs a0 a1 a2 a3 a4) then (let x26 : Int := (ibin .or .u32 (ibin .or .u32 (ibin .or .u32 (ibin .or .u32 (ibin .or .u32 (ibin .or .u32 (rvOf_2 a0) (ibin .shl .u32 (IntKind.wrap .u32 a1) 7)) (ibin .shl .u32 (rvOf_3 a0) 12)) (ibin .shl .u32 (IntKind.wrap .u32 a2) 15)) (ibin .shl .u32 (IntKind.wrap .u32 a3) 20)) (ibin .shl .u32 (rvOf_4 a0) 25)) (rvImm (rvOf_1 a0) a4))
 bif icmp .eql a0 47 then ibin .or .u32 x26 1048576 else x26) else 0
def rvEnc_1 (a0 a1 a2 a3 a4 : Int) : Int :=
 bif (rvIs a0 a1 a2 a3 a4) then (bif icmp .eql a0 47 then 0 else 0) else 12
abbrev rq (x a r : Int) : Int := bif icmp .eql x a then 0 else r
abbrev rq2 (x a r : Int) : Int := rq x a (rq x a r)
abbrev rq3 (x a r : Int) : Int := rq x a (rq2 x a r)
abbrev rq4 (x a r : Int) : Int := rq x a (rq3 x a r)
abbrev rq5 (x a r : Int) : Int := rq x a (rq4 x a r)
abbrev rq6 (x a r : Int) : Int := rq x a (rq5 x a r)
abbrev rq7 (x a r : Int) : Int := rq x a (rq6 x a r)
abbrev rq8 (x a r : Int) : Int := rq x a (rq7 x a r)
abbrev rq9 (x a r : Int) : Int := rq x a (rq8 x a r)
abbrev rq10 (x a r : Int) : Int := rq x a (rq9 x a r)
abbrev rq11 (x a r : Int) : Int := rq x a (rq10 x a r)
abbrev rq12 (x a r : Int) : Int := rq x a (rq11 x a r)
abbrev rq13 (x a r : Int) : Int := rq x a (rq12 x a r)
abbrev rq14 (x a r : Int) : Int := rq x a (rq13 x a r)
abbrev rq15 (x a r : Int) : Int := rq x a (rq14 x a r)
abbrev rq16 (x a r : Int) : Int := rq x a (rq15 x a r)
abbrev rq17 (x a r : Int) : Int := rq x a (rq16 x a r)
abbrev rq18 (x a r : Int) : Int := rq x a (rq17 x a r)
def rvFind (a0 a1 a2 : Int) : Int :=
 bif icmp .eql 55 a0 then (bif icmp .eql 0 a1 then (rq 23 a0<|rq 111 a0<|rq 103 a0<|rq6 99 a0<|rq5 3 a0<|rq3 35 a0<|rq9 19 a0<|rq18 51 a0<|let x49 : Bool := (((a0 : Int) == 55) && (((a1 : Int) == 0) && (((a2 : Int) == 0) && true)))
 bif x49 then 1 else 0) else
 rq 23 a0<|rq 111 a0<|rq 103 a0<|rq6 99 a0<|rq5 3 a0<|rq3 35 a0<|rq9 19 a0<|rq18 51 a0<|0) else
 bif icmp .eql 23 a0 then (bif icmp .eql 0 a1 then (rq 111 a0<|rq 103 a0<|rq6 99 a0<|rq5 3 a0<|rq3 35 a0<|rq9 19 a0<|rq18 51 a0<|let x49 : Bool := (((a0 : Int) == 23) && (((a1 : Int) == 0) && (((a2 : Int) == 0) && true)))
 bif x49 then 2 else 0) else
 rq 111 a0<|rq 103 a0<|rq6 99 a0<|rq5 3 a0<|rq3 35 a0<|rq9 19 a0<|rq18 51 a0<|0) else
 bif icmp .eql 111 a0 then (bif icmp .eql 0 a1 then (rq 103 a0<|rq6 99 a0<|rq5 3 a0<|rq3 35 a0<|rq9 19 a0<|rq18 51 a0<|let x49 : Bool := (((a0 : Int) == 111) && (((a1 : Int) == 0) && (((a2 : Int) == 0) && true)))
 bif x49 then 3 else 0) else
 rq 103 a0<|rq6 99 a0<|rq5 3 a0<|rq3 35 a0<|rq9 19 a0<|rq18 51 a0<|0) else
 bif icmp .eql 103 a0 then (bif icmp .eql 0 a1 then (rq6 99 a0<|rq5 3 a0<|rq3 35 a0<|rq9 19 a0<|rq18 51 a0<|let x49 : Bool := (((a0 : Int) == 103) && (((a1 : Int) == 0) && (((a2 : Int) == 0) && true)))
 bif x49 then 4 else 0) else
 rq6 99 a0<|rq5 3 a0<|rq3 35 a0<|rq9 19 a0<|rq18 51 a0<|0) else
 bif icmp .eql 99 a0 then (bif icmp .eql 0 a1 then (bif icmp .eql 99 a0 then (rq 1 a1<|bif icmp .eql 99 a0 then (rq 4 a1<|bif icmp .eql 99 a0 then (rq 5 a1<|bif icmp .eql 99 a0 then (rq 6 a1<|bif icmp .eql 99 a0 then (rq 7 a1<|rq5 3 a0<|rq3 35 a0<|rq9 19 a0<|rq18 51 a0<|let x54 : Bool := (((a0 : Int) == 99) && (((a1 : Int) == 0) && (((a2 : Int) == 0) && true)))
 bif x54 then 5 else 0) else 0) else 0) else 0) else 0) else 0) else
 bif icmp .eql 99 a0 then (bif icmp .eql 1 a1 then (bif icmp .eql 99 a0 then (rq 4 a1<|bif icmp .eql 99 a0 then (rq 5 a1<|bif icmp .eql 99 a0 then (rq 6 a1<|bif icmp .eql 99 a0 then (rq 7 a1<|rq5 3 a0<|rq3 35 a0<|rq9 19 a0<|rq18 51 a0<|let x54 : Bool := (((a0 : Int) == 99) && (((a1 : Int) == 1) && (((a2 : Int) == 0) && true)))
 bif x54 then 6 else 0) else 0) else 0) else 0) else 0) else
 bif icmp .eql 99 a0 then (bif icmp .eql 4 a1 then (bif icmp .eql 99 a0 then (rq 5 a1<|bif icmp .eql 99 a0 then (rq 6 a1<|bif icmp .eql 99 a0 then (rq 7 a1<|rq5 3 a0<|rq3 35 a0<|rq9 19 a0<|rq18 51 a0<|let x54 : Bool := (((a0 : Int) == 99) && (((a1 : Int) == 4) && (((a2 : Int) == 0) && true)))
 bif x54 then 7 else 0) else 0) else 0) else 0) else
 bif icmp .eql 99 a0 then (bif icmp .eql 5 a1 then (bif icmp .eql 99 a0 then (rq 6 a1<|bif icmp .eql 99 a0 then (rq 7 a1<|rq5 3 a0<|rq3 35 a0<|rq9 19 a0<|rq18 51 a0<|let x54 : Bool := (((a0 : Int) == 99) && (((a1 : Int) == 5) && (((a2 : Int) == 0) && true)))
 bif x54 then 8 else 0) else 0) else 0) else
 bif icmp .eql 99 a0 then (bif icmp .eql 6 a1 then (bif icmp .eql 99 a0 then (rq 7 a1<|rq5 3 a0<|rq3 35 a0<|rq9 19 a0<|rq18 51 a0<|let x54 : Bool := (((a0 : Int) == 99) && (((a1 : Int) == 6) && (((a2 : Int) == 0) && true)))
 bif x54 then 9 else 0) else 0) else
 bif icmp .eql 99 a0 then (bif icmp .eql 7 a1 then (rq5 3 a0<|rq3 35 a0<|rq9 19 a0<|rq18 51 a0<|let x54 : Bool := (((a0 : Int) == 99) && (((a1 : Int) == 7) && (((a2 : Int) == 0) && true)))
 bif x54 then 10 else 0) else
 rq5 3 a0<|rq3 35 a0<|rq9 19 a0<|rq18 51 a0<|0) else 0) else 0) else 0) else 0) else 0) else
 rq5 99 a0<|bif icmp .eql 3 a0 then (bif icmp .eql 0 a1 then (bif icmp .eql 3 a0 then (rq 1 a1<|bif icmp .eql 3 a0 then (rq 2 a1<|bif icmp .eql 3 a0 then (rq 4 a1<|bif icmp .eql 3 a0 then (rq 5 a1<|rq3 35 a0<|rq9 19 a0<|rq18 51 a0<|let x53 : Bool := (((a0 : Int) == 3) && (((a1 : Int) == 0) && (((a2 : Int) == 0) && true)))
 bif x53 then 11 else 0) else 0) else 0) else 0) else 0) else
 bif icmp .eql 3 a0 then (bif icmp .eql 1 a1 then (bif icmp .eql 3 a0 then (rq 2 a1<|bif icmp .eql 3 a0 then (rq 4 a1<|bif icmp .eql 3 a0 then (rq 5 a1<|rq3 35 a0<|rq9 19 a0<|rq18 51 a0<|let x53 : Bool := (((a0 : Int) == 3) && (((a1 : Int) == 1) && (((a2 : Int) == 0) && true)))
 bif x53 then 12 else 0) else 0) else 0) else 0) else
 bif icmp .eql 3 a0 then (bif icmp .eql 2 a1 then (bif icmp .eql 3 a0 then (rq 4 a1<|bif icmp .eql 3 a0 then (rq 5 a1<|rq3 35 a0<|rq9 19 a0<|rq18 51 a0<|let x53 : Bool := (((a0 : Int) == 3) && (((a1 : Int) == 2) && (((a2 : Int) == 0) && true)))
 bif x53 then 13 else 0) else 0) else 0) else
 bif icmp .eql 3 a0 then (bif icmp .eql 4 a1 then (bif icmp .eql 3 a0 then (rq 5 a1<|rq3 35 a0<|rq9 19 a0<|rq18 51 a0<|let x53 : Bool := (((a0 : Int) == 3) && (((a1 : Int) == 4) && (((a2 : Int) == 0) && true)))
 bif x53 then 14 else 0) else 0) else
 bif icmp .eql 3 a0 then (bif icmp .eql 5 a1 then (rq3 35 a0<|rq9 19 a0<|rq18 51 a0<|let x53 : Bool := (((a0 : Int) == 3) && (((a1 : Int) == 5) && (((a2 : Int) == 0) && true)))
 bif x53 then 15 else 0) else
 rq3 35 a0<|rq9 19 a0<|rq18 51 a0<|0) else 0) else 0) else 0) else 0) else
 rq4 3 a0<|bif icmp .eql 35 a0 then (bif icmp .eql 0 a1 then (bif icmp .eql 35 a0 then (rq 1 a1<|bif icmp .eql 35 a0 then (rq 2 a1<|rq9 19 a0<|rq18 51 a0<|let x51 : Bool := (((a0 : Int) == 35) && (((a1 : Int) == 0) && (((a2 : Int) == 0) && true)))
 bif x51 then 16 else 0) else 0) else 0) else
 bif icmp .eql 35 a0 then (bif icmp .eql 1 a1 then (bif icmp .eql 35 a0 then (rq 2 a1<|rq9 19 a0<|rq18 51 a0<|let x51 : Bool := (((a0 : Int) == 35) && (((a1 : Int) == 1) && (((a2 : Int) == 0) && true)))
 bif x51 then 17 else 0) else 0) else
 bif icmp .eql 35 a0 then (bif icmp .eql 2 a1 then (rq9 19 a0<|rq18 51 a0<|let x51 : Bool := (((a0 : Int) == 35) && (((a1 : Int) == 2) && (((a2 : Int) == 0) && true)))
 bif x51 then 18 else 0) else
 rq9 19 a0<|rq18 51 a0<|0) else 0) else 0) else
 rq2 35 a0<|bif icmp .eql 19 a0 then (bif icmp .eql 0 a1 then (bif icmp .eql 19 a0 then (rq 2 a1<|bif icmp .eql 19 a0 then (rq 3 a1<|bif icmp .eql 19 a0 then (rq 4 a1<|bif icmp .eql 19 a0 then (rq 6 a1<|bif icmp .eql 19 a0 then (rq 7 a1<|bif icmp .eql 19 a0 then (rq 1 a1<|bif icmp .eql 19 a0 then (rq 5 a1<|bif icmp .eql 19 a0 then (rq 5 a1<|rq18 51 a0<|let x57 : Bool := (((a0 : Int) == 19) && (((a1 : Int) == 0) && (((a2 : Int) == 0) && true)))
 bif x57 then 19 else 0) else 0) else 0) else 0) else 0) else 0) else 0) else 0) else 0) else
 bif icmp .eql 19 a0 then (bif icmp .eql 2 a1 then (bif icmp .eql 19 a0 then (rq 3 a1<|bif icmp .eql 19 a0 then (rq 4 a1<|bif icmp .eql 19 a0 then (rq 6 a1<|bif icmp .eql 19 a0 then (rq 7 a1<|bif icmp .eql 19 a0 then (rq 1 a1<|bif icmp .eql 19 a0 then (rq 5 a1<|bif icmp .eql 19 a0 then (rq 5 a1<|rq18 51 a0<|let x57 : Bool := (((a0 : Int) == 19) && (((a1 : Int) == 2) && (((a2 : Int) == 0) && true)))
 bif x57 then 20 else 0) else 0) else 0) else 0) else 0) else 0) else 0) else 0) else
 bif icmp .eql 19 a0 then (bif icmp .eql 3 a1 then (bif icmp .eql 19 a0 then (rq 4 a1<|bif icmp .eql 19 a0 then (rq 6 a1<|bif icmp .eql 19 a0 then (rq 7 a1<|bif icmp .eql 19 a0 then (rq 1 a1<|bif icmp .eql 19 a0 then (rq 5 a1<|bif icmp .eql 19 a0 then (rq 5 a1<|rq18 51 a0<|let x57 : Bool := (((a0 : Int) == 19) && (((a1 : Int) == 3) && (((a2 : Int) == 0) && true)))
 bif x57 then 21 else 0) else 0) else 0) else 0) else 0) else 0) else 0) else
 bif icmp .eql 19 a0 then (bif icmp .eql 4 a1 then (bif icmp .eql 19 a0 then (rq 6 a1<|bif icmp .eql 19 a0 then (rq 7 a1<|bif icmp .eql 19 a0 then (rq 1 a1<|bif icmp .eql 19 a0 then (rq 5 a1<|bif icmp .eql 19 a0 then (rq 5 a1<|rq18 51 a0<|let x57 : Bool := (((a0 : Int) == 19) && (((a1 : Int) == 4) && (((a2 : Int) == 0) && true)))
 bif x57 then 22 else 0) else 0) else 0) else 0) else 0) else 0) else
 bif icmp .eql 19 a0 then (bif icmp .eql 6 a1 then (bif icmp .eql 19 a0 then (rq 7 a1<|bif icmp .eql 19 a0 then (rq 1 a1<|bif icmp .eql 19 a0 then (rq 5 a1<|bif icmp .eql 19 a0 then (rq 5 a1<|rq18 51 a0<|let x57 : Bool := (((a0 : Int) == 19) && (((a1 : Int) == 6) && (((a2 : Int) == 0) && true)))
 bif x57 then 23 else 0) else 0) else 0) else 0) else 0) else
 bif icmp .eql 19 a0 then (bif icmp .eql 7 a1 then (bif icmp .eql 19 a0 then (rq 1 a1<|bif icmp .eql 19 a0 then (rq 5 a1<|bif icmp .eql 19 a0 then (rq 5 a1<|rq18 51 a0<|let x57 : Bool := (((a0 : Int) == 19) && (((a1 : Int) == 7) && (((a2 : Int) == 0) && true)))
 bif x57 then 24 else 0) else 0) else 0) else 0) else
 bif icmp .eql 19 a0 then (bif icmp .eql 1 a1 then (bif icmp .eql 19 a0 then (rq 5 a1<|bif icmp .eql 19 a0 then (rq 5 a1<|rq18 51 a0<|let x57 : Bool := (((a0 : Int) == 19) && (((a1 : Int) == 1) && (((a2 : Int) == 0) && true)))
 bif x57 then 25 else 0) else 0) else 0) else
 bif icmp .eql 19 a0 then (bif icmp .eql 5 a1 then (bif icmp .eql 19 a0 then (bif icmp .eql 5 a1 then (rq18 51 a0<|let x57 : Bool := (((a0 : Int) == 19) && (((a1 : Int) == 5) && (((a2 : Int) == 0) && true)))
 bif x57 then 26 else
 let x58 : Bool := (((a0 : Int) == 19) && (((a1 : Int) == 5) && (((a2 : Int) == 32) && true)))
 bif x58 then 27 else 0) else 0) else 0) else
 bif icmp .eql 19 a0 then (rq 5 a1<|rq18 51 a0<|0) else 0) else 0) else 0) else 0) else 0) else 0) else 0) else 0) else
 rq8 19 a0<|bif icmp .eql 51 a0 then (bif icmp .eql 0 a1 then (bif icmp .eql 51 a0 then (bif icmp .eql 0 a1 then (bif icmp .eql 51 a0 then (rq 1 a1<|bif icmp .eql 51 a0 then (rq 2 a1<|bif icmp .eql 51 a0 then (rq 3 a1<|bif icmp .eql 51 a0 then (rq 4 a1<|bif icmp .eql 51 a0 then (rq 5 a1<|bif icmp .eql 51 a0 then (rq 5 a1<|bif icmp .eql 51 a0 then (rq 6 a1<|bif icmp .eql 51 a0 then (rq 7 a1<|bif icmp .eql 51 a0 then (bif icmp .eql 0 a1 then (bif icmp .eql 51 a0 then (rq 1 a1<|bif icmp .eql 51 a0 then (rq 2 a1<|bif icmp .eql 51 a0 then (rq 3 a1<|bif icmp .eql 51 a0 then (rq 4 a1<|bif icmp .eql 51 a0 then (rq 5 a1<|bif icmp .eql 51 a0 then (rq 6 a1<|bif icmp .eql 51 a0 then (rq 7 a1<|let x66 : Bool := (((a0 : Int) == 51) && (((a1 : Int) == 0) && (((a2 : Int) == 0) && true)))
 bif x66 then 28 else
 let x67 : Bool := (((a0 : Int) == 51) && (((a1 : Int) == 0) && (((a2 : Int) == 32) && true)))
 bif x67 then 29 else
 let x68 : Bool := (((a0 : Int) == 51) && (((a1 : Int) == 0) && (((a2 : Int) == 1) && true)))
 bif x68 then 38 else 0) else 0) else 0) else 0) else 0) else 0) else 0) else 0) else 0) else 0) else 0) else 0) else 0) else 0) else 0) else 0) else 0) else 0) else 0) else 0) else
 bif icmp .eql 51 a0 then (rq 0 a1<|bif icmp .eql 51 a0 then (bif icmp .eql 1 a1 then (bif icmp .eql 51 a0 then (rq 2 a1<|bif icmp .eql 51 a0 then (rq 3 a1<|bif icmp .eql 51 a0 then (rq 4 a1<|bif icmp .eql 51 a0 then (rq 5 a1<|bif icmp .eql 51 a0 then (rq 5 a1<|bif icmp .eql 51 a0 then (rq 6 a1<|bif icmp .eql 51 a0 then (rq 7 a1<|bif icmp .eql 51 a0 then (rq 0 a1<|bif icmp .eql 51 a0 then (bif icmp .eql 1 a1 then (bif icmp .eql 51 a0 then (rq 2 a1<|bif icmp .eql 51 a0 then (rq 3 a1<|bif icmp .eql 51 a0 then (rq 4 a1<|bif icmp .eql 51 a0 then (rq 5 a1<|bif icmp .eql 51 a0 then (rq 6 a1<|bif icmp .eql 51 a0 then (rq 7 a1<|let x66 : Bool := (((a0 : Int) == 51) && (((a1 : Int) == 1) && (((a2 : Int) == 0) && true)))
 bif x66 then 30 else
 let x67 : Bool := (((a0 : Int) == 51) && (((a1 : Int) == 1) && (((a2 : Int) == 1) && true)))
 bif x67 then 39 else 0) else 0) else 0) else 0) else 0) else 0) else 0) else 0) else 0) else 0) else 0) else 0) else 0) else 0) else 0) else 0) else 0) else
 bif icmp .eql 51 a0 then (bif icmp .eql 2 a1 then (bif icmp .eql 51 a0 then (rq 3 a1<|bif icmp .eql 51 a0 then (rq 4 a1<|bif icmp .eql 51 a0 then (rq 5 a1<|bif icmp .eql 51 a0 then (rq 5 a1<|bif icmp .eql 51 a0 then (rq 6 a1<|bif icmp .eql 51 a0 then (rq 7 a1<|bif icmp .eql 51 a0 then (rq 0 a1<|bif icmp .eql 51 a0 then (rq 1 a1<|bif icmp .eql 51 a0 then (bif icmp .eql 2 a1 then (bif icmp .eql 51 a0 then (rq 3 a1<|bif icmp .eql 51 a0 then (rq 4 a1<|bif icmp .eql 51 a0 then (rq 5 a1<|bif icmp .eql 51 a0 then (rq 6 a1<|bif icmp .eql 51 a0 then (rq 7 a1<|let x66 : Bool := (((a0 : Int) == 51) && (((a1 : Int) == 2) && (((a2 : Int) == 0) && true)))
 bif x66 then 31 else
 let x67 : Bool := (((a0 : Int) == 51) && (((a1 : Int) == 2) && (((a2 : Int) == 1) && true)))
 bif x67 then 40 else 0) else 0) else 0) else 0) else 0) else 0) else 0) else 0) else 0) else 0) else 0) else 0) else 0) else 0) else 0) else 0) else
 bif icmp .eql 51 a0 then (bif icmp .eql 3 a1 then (bif icmp .eql 51 a0 then (rq 4 a1<|bif icmp .eql 51 a0 then (rq 5 a1<|bif icmp .eql 51 a0 then (rq 5 a1<|bif icmp .eql 51 a0 then (rq 6 a1<|bif icmp .eql 51 a0 then (rq 7 a1<|bif icmp .eql 51 a0 then (rq 0 a1<|bif icmp .eql 51 a0 then (rq 1 a1<|bif icmp .eql 51 a0 then (rq 2 a1<|bif icmp .eql 51 a0 then (bif icmp .eql 3 a1 then (bif icmp .eql 51 a0 then (rq 4 a1<|bif icmp .eql 51 a0 then (rq 5 a1<|bif icmp .eql 51 a0 then (rq 6 a1<|bif icmp .eql 51 a0 then (rq 7 a1<|let x66 : Bool := (((a0 : Int) == 51) && (((a1 : Int) == 3) && (((a2 : Int) == 0) && true)))
 bif x66 then 32 else
 let x67 : Bool := (((a0 : Int) == 51) && (((a1 : Int) == 3) && (((a2 : Int) == 1) && true)))
 bif x67 then 41 else 0) else 0) else 0) else 0) else 0) else 0) else 0) else 0) else 0) else 0) else 0) else 0) else 0) else 0) else 0) else
 bif icmp .eql 51 a0 then (bif icmp .eql 4 a1 then (bif icmp .eql 51 a0 then (rq 5 a1<|bif icmp .eql 51 a0 then (rq 5 a1<|bif icmp .eql 51 a0 then (rq 6 a1<|bif icmp .eql 51 a0 then (rq 7 a1<|bif icmp .eql 51 a0 then (rq 0 a1<|bif icmp .eql 51 a0 then (rq 1 a1<|bif icmp .eql 51 a0 then (rq 2 a1<|bif icmp .eql 51 a0 then (rq 3 a1<|bif icmp .eql 51 a0 then (bif icmp .eql 4 a1 then (bif icmp .eql 51 a0 then (rq 5 a1<|bif icmp .eql 51 a0 then (rq 6 a1<|bif icmp .eql 51 a0 then (rq 7 a1<|let x66 : Bool := (((a0 : Int) == 51) && (((a1 : Int) == 4) && (((a2 : Int) == 0) && true)))
 bif x66 then 33 else
 let x67 : Bool := (((a0 : Int) == 51) && (((a1 : Int) == 4) && (((a2 : Int) == 1) && true)))
 bif x67 then 42 else 0) else 0) else 0) else 0) else 0) else 0) else 0) else 0) else 0) else 0) else 0) else 0) else 0) else 0) else
 bif icmp .eql 51 a0 then (bif icmp .eql 5 a1 then (bif icmp .eql 51 a0 then (bif icmp .eql 5 a1 then (bif icmp .eql 51 a0 then (rq 6 a1<|bif icmp .eql 51 a0 then (rq 7 a1<|bif icmp .eql 51 a0 then (rq 0 a1<|bif icmp .eql 51 a0 then (rq 1 a1<|bif icmp .eql 51 a0 then (rq 2 a1<|bif icmp .eql 51 a0 then (rq 3 a1<|bif icmp .eql 51 a0 then (rq 4 a1<|bif icmp .eql 51 a0 then (bif icmp .eql 5 a1 then (bif icmp .eql 51 a0 then (rq 6 a1<|bif icmp .eql 51 a0 then (rq 7 a1<|let x66 : Bool := (((a0 : Int) == 51) && (((a1 : Int) == 5) && (((a2 : Int) == 0) && true)))
 bif x66 then 34 else
 let x67 : Bool := (((a0 : Int) == 51) && (((a1 : Int) == 5) && (((a2 : Int) == 32) && true)))
 bif x67 then 35 else
 let x68 : Bool := (((a0 : Int) == 51) && (((a1 : Int) == 5) && (((a2 : Int) == 1) && true)))
 bif x68 then 43 else 0) else 0) else 0) else 0) else 0) else 0) else 0) else 0) else 0) else 0) else 0) else 0) else 0) else 0) else
 bif icmp .eql 51 a0 then (rq 5 a1<|bif icmp .eql 51 a0 then (bif icmp .eql 6 a1 then (bif icmp .eql 51 a0 then (rq 7 a1<|bif icmp .eql 51 a0 then (rq 0 a1<|bif icmp .eql 51 a0 then (rq 1 a1<|bif icmp .eql 51 a0 then (rq 2 a1<|bif icmp .eql 51 a0 then (rq 3 a1<|bif icmp .eql 51 a0 then (rq 4 a1<|bif icmp .eql 51 a0 then (rq 5 a1<|bif icmp .eql 51 a0 then (bif icmp .eql 6 a1 then (bif icmp .eql 51 a0 then (rq 7 a1<|let x66 : Bool := (((a0 : Int) == 51) && (((a1 : Int) == 6) && (((a2 : Int) == 0) && true)))
 bif x66 then 36 else
 let x67 : Bool := (((a0 : Int) == 51) && (((a1 : Int) == 6) && (((a2 : Int) == 1) && true)))
 bif x67 then 44 else 0) else 0) else 0) else 0) else 0) else 0) else 0) else 0) else 0) else 0) else 0) else
 bif icmp .eql 51 a0 then (bif icmp .eql 7 a1 then (bif icmp .eql 51 a0 then (rq 0 a1<|bif icmp .eql 51 a0 then (rq 1 a1<|bif icmp .eql 51 a0 then (rq 2 a1<|bif icmp .eql 51 a0 then (rq 3 a1<|bif icmp .eql 51 a0 then (rq 4 a1<|bif icmp .eql 51 a0 then (rq 5 a1<|bif icmp .eql 51 a0 then (rq 6 a1<|bif icmp .eql 51 a0 then (bif icmp .eql 7 a1 then (let x66 : Bool := (((a0 : Int) == 51) && (((a1 : Int) == 7) && (((a2 : Int) == 0) && true)))
 bif x66 then 37 else
 let x67 : Bool := (((a0 : Int) == 51) && (((a1 : Int) == 7) && (((a2 : Int) == 1) && true)))
 bif x67 then 45 else 0) else 0) else 0) else 0) else 0) else 0) else 0) else 0) else 0) else 0) else
 bif icmp .eql 51 a0 then (rq 0 a1<|bif icmp .eql 51 a0 then (rq 1 a1<|bif icmp .eql 51 a0 then (rq 2 a1<|bif icmp .eql 51 a0 then (rq 3 a1<|bif icmp .eql 51 a0 then (rq 4 a1<|bif icmp .eql 51 a0 then (rq 5 a1<|bif icmp .eql 51 a0 then (rq 6 a1<|bif icmp .eql 51 a0 then (rq 7 a1<|0) else 0) else 0) else 0) else 0) else 0) else 0) else 0) else 0) else 0) else 0) else 0) else 0) else 0) else 0) else 0) else 0) else 0) else
 rq17 51 a0<|0
def rvOpOf (a0 : Int) : Int :=
 bif (icmp .eql (ibin .and .u32 a0 127) 115) then (let x4 : Int := (IntKind.wrap .i64 (btField a0 20 1))
 (ibin .add .i64 46 x4)) else
 let x3 : Bool := (icmp .eql (ibin .and .u32 a0 127) 55)
 bif x3 then (let x4 : Int := (rvFind (ibin .and .u32 a0 127) 0 0)
 x4) else
 let x4 : Bool := (icmp .eql (ibin .and .u32 a0 127) 23)
 bif x4 then (let x5 : Int := (rvFind (ibin .and .u32 a0 127) 0 0)
 x5) else
 let x5 : Bool := (icmp .eql (ibin .and .u32 a0 127) 111)
 bif x5 then (let x6 : Int := (rvFind (ibin .and .u32 a0 127) 0 0)
 x6) else
 let x6 : Bool := (icmp .eql (ibin .and .u32 a0 127) 51)
 bif x6 then (let x9 : Int := (rvFind (ibin .and .u32 a0 127) (btField a0 12 3) (btField a0 25 7))
 x9) else
 let x8 : Bool := (icmp .eql (ibin .and .u32 a0 127) 19)
 bif x8 then (let x9 : Int := (ibin .and .u32 (btField a0 12 3) 3)
 bif icmp .eql x9 1 then rvFind (ibin .and .u32 a0 127) (btField a0 12 3) (btField a0 25 7) else
 let x11 : Int := (rvFind (ibin .and .u32 a0 127) (btField a0 12 3) 0)
 x11) else
 let x9 : Int := (rvFind (ibin .and .u32 a0 127) (btField a0 12 3) 0)
 x9
def rvNumOf (a0 a1 : Int) : Int :=
 bif icmp .eql a0 2 then (let x4 : Int := (ibin .shl .u32 (btField a1 20 12) 0)
 (btSigned x4 12)) else
 bif icmp .eql a0 3 then (let x5 : Int := (ibin .shl .u32 (btField a1 20 12) 0)
 (btSigned x5 12)) else
 bif icmp .eql a0 4 then (let x6 : Int := (ibin .shl .u32 (btField a1 20 5) 0)
 (IntKind.wrap .i32 x6)) else
 bif icmp .eql a0 5 then (let x7 : Int := (ibin .shl .u32 (btField a1 25 7) 5)
 let x9 : Int := (ibin .shl .u32 (btField a1 7 5) 0)
 let x11 : Int := (btSigned (ibin .or .u32 x7 x9) 12)
 x11) else
 bif icmp .eql a0 6 then (let x8 : Int := (ibin .shl .u32 (btField a1 31 1) 12)
 let x10 : Int := (ibin .shl .u32 (btField a1 25 6) 5)
 let x13 : Int := (ibin .shl .u32 (btField a1 8 4) 1)
 let x14 : Int := (ibin .or .u32 (ibin .or .u32 x8 x10) x13)
 let x16 : Int := (ibin .shl .u32 (btField a1 7 1) 11)
 let x18 : Int := (btSigned (ibin .or .u32 x14 x16) 13)
 x18) else
 bif icmp .eql a0 7 then (let x9 : Int := (IntKind.wrap .i32 (ibin .andNot .u32 a1 4095))
 x9) else
 bif icmp .eql a0 8 then (let x10 : Int := (ibin .shl .u32 (btField a1 31 1) 20)
 let x12 : Int := (ibin .shl .u32 (btField a1 21 10) 1)
 let x15 : Int := (ibin .shl .u32 (btField a1 20 1) 11)
 let x16 : Int := (ibin .or .u32 (ibin .or .u32 x10 x12) x15)
 let x18 : Int := (ibin .shl .u32 (btField a1 12 8) 12)
 (btSigned (ibin .or .u32 x16 x18) 21)) else 0
def rvDec_0 (a0 : Int) : Int :=
 bif (rvOf_5 (rvOpOf a0)) then (let x8 : Int := (rvNumOf (rvOf_1 (rvOpOf a0)) a0)
 let x10 : Bool := (rvParts_1 (rvOf_1 (rvOpOf a0)))
 let x11 : Bool := (rvParts_2 (rvOf_1 (rvOpOf a0)))
 bif (rvParts_0 (rvOf_1 (rvOpOf a0))) then (let x13 : Int := (IntKind.wrap .i64 (btField a0 7 5))
 bif x10 then (let x15 : Int := (IntKind.wrap .i64 (btField a0 15 5))
 bif x11 then (let x17 : Int := (IntKind.wrap .i64 (btField a0 20 5))
 let x18 : Int := (rvEnc_0 (rvOpOf a0) x13 x15 x17 x8)
 let x19 : Int := (rvEnc_1 (rvOpOf a0) x13 x15 x17 x8)
 bif icmp .neq x19 0 then 0 else
 bif icmp .neq x18 a0 then 0 else (rvOpOf a0)) else
 let x16 : Int := (rvEnc_0 (rvOpOf a0) x13 x15 0 x8)
 let x17 : Int := (rvEnc_1 (rvOpOf a0) x13 x15 0 x8)
 bif icmp .neq x17 0 then 0 else
 bif icmp .neq x16 a0 then 0 else (rvOpOf a0)) else
 bif x11 then (let x15 : Int := (IntKind.wrap .i64 (btField a0 20 5))
 let x16 : Int := (rvEnc_0 (rvOpOf a0) x13 0 x15 x8)
 let x17 : Int := (rvEnc_1 (rvOpOf a0) x13 0 x15 x8)
 bif icmp .neq x17 0 then 0 else
 bif icmp .neq x16 a0 then 0 else (rvOpOf a0)) else
 let x14 : Int := (rvEnc_0 (rvOpOf a0) x13 0 0 x8)
 let x15 : Int := (rvEnc_1 (rvOpOf a0) x13 0 0 x8)
 bif icmp .neq x15 0 then 0 else
 bif icmp .neq x14 a0 then 0 else (rvOpOf a0)) else
 bif x10 then (let x13 : Int := (IntKind.wrap .i64 (btField a0 15 5))
 bif x11 then (let x15 : Int := (IntKind.wrap .i64 (btField a0 20 5))
 let x16 : Int := (rvEnc_0 (rvOpOf a0) 0 x13 x15 x8)
 let x17 : Int := (rvEnc_1 (rvOpOf a0) 0 x13 x15 x8)
 bif icmp .neq x17 0 then 0 else
 bif icmp .neq x16 a0 then 0 else (rvOpOf a0)) else
 let x14 : Int := (rvEnc_0 (rvOpOf a0) 0 x13 0 x8)
 let x15 : Int := (rvEnc_1 (rvOpOf a0) 0 x13 0 x8)
 bif icmp .neq x15 0 then 0 else
 bif icmp .neq x14 a0 then 0 else (rvOpOf a0)) else
 bif x11 then (let x13 : Int := (IntKind.wrap .i64 (btField a0 20 5))
 let x14 : Int := (rvEnc_0 (rvOpOf a0) 0 0 x13 x8)
 let x15 : Int := (rvEnc_1 (rvOpOf a0) 0 0 x13 x8)
 bif icmp .neq x15 0 then 0 else
 bif icmp .neq x14 a0 then 0 else (rvOpOf a0)) else
 let x14 : Bool := (icmp .neq (rvEnc_1 (rvOpOf a0) 0 0 0 x8) 0)
 bif x14 then 0 else
 let x15 : Bool := (icmp .neq (rvEnc_0 (rvOpOf a0) 0 0 0 x8) a0)
 bif x15 then 0 else (rvOpOf a0)) else 0
def rvDec_1 (a0 : Int) : Int :=
 bif (rvOf_5 (rvOpOf a0)) then (let x8 : Int := (rvNumOf (rvOf_1 (rvOpOf a0)) a0)
 let x10 : Bool := (rvParts_1 (rvOf_1 (rvOpOf a0)))
 let x11 : Bool := (rvParts_2 (rvOf_1 (rvOpOf a0)))
 bif (rvParts_0 (rvOf_1 (rvOpOf a0))) then (let x13 : Int := (IntKind.wrap .i64 (btField a0 7 5))
 bif x10 then (let x15 : Int := (IntKind.wrap .i64 (btField a0 15 5))
 bif x11 then (let x17 : Int := (IntKind.wrap .i64 (btField a0 20 5))
 let x18 : Int := (rvEnc_0 (rvOpOf a0) x13 x15 x17 x8)
 let x19 : Int := (rvEnc_1 (rvOpOf a0) x13 x15 x17 x8)
 bif icmp .neq x19 0 then 0 else
 bif icmp .neq x18 a0 then 0 else x13) else
 let x16 : Int := (rvEnc_0 (rvOpOf a0) x13 x15 0 x8)
 let x17 : Int := (rvEnc_1 (rvOpOf a0) x13 x15 0 x8)
 bif icmp .neq x17 0 then 0 else
 bif icmp .neq x16 a0 then 0 else x13) else
 bif x11 then (let x15 : Int := (IntKind.wrap .i64 (btField a0 20 5))
 let x16 : Int := (rvEnc_0 (rvOpOf a0) x13 0 x15 x8)
 let x17 : Int := (rvEnc_1 (rvOpOf a0) x13 0 x15 x8)
 bif icmp .neq x17 0 then 0 else
 bif icmp .neq x16 a0 then 0 else x13) else
 let x14 : Int := (rvEnc_0 (rvOpOf a0) x13 0 0 x8)
 let x15 : Int := (rvEnc_1 (rvOpOf a0) x13 0 0 x8)
 bif icmp .neq x15 0 then 0 else
 bif icmp .neq x14 a0 then 0 else x13) else
 bif x10 then (let x13 : Int := (IntKind.wrap .i64 (btField a0 15 5))
 bif x11 then (let x15 : Int := (IntKind.wrap .i64 (btField a0 20 5))
 let x16 : Int := (rvEnc_0 (rvOpOf a0) 0 x13 x15 x8)
 let x17 : Int := (rvEnc_1 (rvOpOf a0) 0 x13 x15 x8)
 bif icmp .neq x17 0 then 0 else
 bif icmp .neq x16 a0 then 0 else 0) else
 let x14 : Int := (rvEnc_0 (rvOpOf a0) 0 x13 0 x8)
 let x15 : Int := (rvEnc_1 (rvOpOf a0) 0 x13 0 x8)
 bif icmp .neq x15 0 then 0 else
 bif icmp .neq x14 a0 then 0 else 0) else
 bif x11 then (let x13 : Int := (IntKind.wrap .i64 (btField a0 20 5))
 let x14 : Int := (rvEnc_0 (rvOpOf a0) 0 0 x13 x8)
 let x15 : Int := (rvEnc_1 (rvOpOf a0) 0 0 x13 x8)
 bif icmp .neq x15 0 then 0 else
 bif icmp .neq x14 a0 then 0 else 0) else
 let x14 : Bool := (icmp .neq (rvEnc_1 (rvOpOf a0) 0 0 0 x8) 0)
 bif x14 then 0 else
 let x15 : Bool := (icmp .neq (rvEnc_0 (rvOpOf a0) 0 0 0 x8) a0)
 bif x15 then 0 else 0) else 0
def rvDec_2 (a0 : Int) : Int :=
 bif (rvOf_5 (rvOpOf a0)) then (let x8 : Int := (rvNumOf (rvOf_1 (rvOpOf a0)) a0)
 let x10 : Bool := (rvParts_1 (rvOf_1 (rvOpOf a0)))
 let x11 : Bool := (rvParts_2 (rvOf_1 (rvOpOf a0)))
 bif (rvParts_0 (rvOf_1 (rvOpOf a0))) then (let x13 : Int := (IntKind.wrap .i64 (btField a0 7 5))
 bif x10 then (let x15 : Int := (IntKind.wrap .i64 (btField a0 15 5))
 bif x11 then (let x17 : Int := (IntKind.wrap .i64 (btField a0 20 5))
 let x18 : Int := (rvEnc_0 (rvOpOf a0) x13 x15 x17 x8)
 let x19 : Int := (rvEnc_1 (rvOpOf a0) x13 x15 x17 x8)
 bif icmp .neq x19 0 then 0 else
 bif icmp .neq x18 a0 then 0 else x15) else
 let x16 : Int := (rvEnc_0 (rvOpOf a0) x13 x15 0 x8)
 let x17 : Int := (rvEnc_1 (rvOpOf a0) x13 x15 0 x8)
 bif icmp .neq x17 0 then 0 else
 bif icmp .neq x16 a0 then 0 else x15) else
 bif x11 then (let x15 : Int := (IntKind.wrap .i64 (btField a0 20 5))
 let x16 : Int := (rvEnc_0 (rvOpOf a0) x13 0 x15 x8)
 let x17 : Int := (rvEnc_1 (rvOpOf a0) x13 0 x15 x8)
 bif icmp .neq x17 0 then 0 else
 bif icmp .neq x16 a0 then 0 else 0) else
 let x14 : Int := (rvEnc_0 (rvOpOf a0) x13 0 0 x8)
 let x15 : Int := (rvEnc_1 (rvOpOf a0) x13 0 0 x8)
 bif icmp .neq x15 0 then 0 else
 bif icmp .neq x14 a0 then 0 else 0) else
 bif x10 then (let x13 : Int := (IntKind.wrap .i64 (btField a0 15 5))
 bif x11 then (let x15 : Int := (IntKind.wrap .i64 (btField a0 20 5))
 let x16 : Int := (rvEnc_0 (rvOpOf a0) 0 x13 x15 x8)
 let x17 : Int := (rvEnc_1 (rvOpOf a0) 0 x13 x15 x8)
 bif icmp .neq x17 0 then 0 else
 bif icmp .neq x16 a0 then 0 else x13) else
 let x14 : Int := (rvEnc_0 (rvOpOf a0) 0 x13 0 x8)
 let x15 : Int := (rvEnc_1 (rvOpOf a0) 0 x13 0 x8)
 bif icmp .neq x15 0 then 0 else
 bif icmp .neq x14 a0 then 0 else x13) else
 bif x11 then (let x13 : Int := (IntKind.wrap .i64 (btField a0 20 5))
 let x14 : Int := (rvEnc_0 (rvOpOf a0) 0 0 x13 x8)
 let x15 : Int := (rvEnc_1 (rvOpOf a0) 0 0 x13 x8)
 bif icmp .neq x15 0 then 0 else
 bif icmp .neq x14 a0 then 0 else 0) else
 let x14 : Bool := (icmp .neq (rvEnc_1 (rvOpOf a0) 0 0 0 x8) 0)
 bif x14 then 0 else
 let x15 : Bool := (icmp .neq (rvEnc_0 (rvOpOf a0) 0 0 0 x8) a0)
 bif x15 then 0 else 0) else 0
def rvDec_3 (a0 : Int) : Int :=
 bif (rvOf_5 (rvOpOf a0)) then (let x8 : Int := (rvNumOf (rvOf_1 (rvOpOf a0)) a0)
 let x10 : Bool := (rvParts_1 (rvOf_1 (rvOpOf a0)))
 let x11 : Bool := (rvParts_2 (rvOf_1 (rvOpOf a0)))
 bif (rvParts_0 (rvOf_1 (rvOpOf a0))) then (let x13 : Int := (IntKind.wrap .i64 (btField a0 7 5))
 bif x10 then (let x15 : Int := (IntKind.wrap .i64 (btField a0 15 5))
 bif x11 then (let x17 : Int := (IntKind.wrap .i64 (btField a0 20 5))
 let x18 : Int := (rvEnc_0 (rvOpOf a0) x13 x15 x17 x8)
 let x19 : Int := (rvEnc_1 (rvOpOf a0) x13 x15 x17 x8)
 bif icmp .neq x19 0 then 0 else
 bif icmp .neq x18 a0 then 0 else x17) else
 let x16 : Int := (rvEnc_0 (rvOpOf a0) x13 x15 0 x8)
 let x17 : Int := (rvEnc_1 (rvOpOf a0) x13 x15 0 x8)
 bif icmp .neq x17 0 then 0 else
 bif icmp .neq x16 a0 then 0 else 0) else
 bif x11 then (let x15 : Int := (IntKind.wrap .i64 (btField a0 20 5))
 let x16 : Int := (rvEnc_0 (rvOpOf a0) x13 0 x15 x8)
 let x17 : Int := (rvEnc_1 (rvOpOf a0) x13 0 x15 x8)
 bif icmp .neq x17 0 then 0 else
 bif icmp .neq x16 a0 then 0 else x15) else
 let x14 : Int := (rvEnc_0 (rvOpOf a0) x13 0 0 x8)
 let x15 : Int := (rvEnc_1 (rvOpOf a0) x13 0 0 x8)
 bif icmp .neq x15 0 then 0 else
 bif icmp .neq x14 a0 then 0 else 0) else
 bif x10 then (let x13 : Int := (IntKind.wrap .i64 (btField a0 15 5))
 bif x11 then (let x15 : Int := (IntKind.wrap .i64 (btField a0 20 5))
 let x16 : Int := (rvEnc_0 (rvOpOf a0) 0 x13 x15 x8)
 let x17 : Int := (rvEnc_1 (rvOpOf a0) 0 x13 x15 x8)
 bif icmp .neq x17 0 then 0 else
 bif icmp .neq x16 a0 then 0 else x15) else
 let x14 : Int := (rvEnc_0 (rvOpOf a0) 0 x13 0 x8)
 let x15 : Int := (rvEnc_1 (rvOpOf a0) 0 x13 0 x8)
 bif icmp .neq x15 0 then 0 else
 bif icmp .neq x14 a0 then 0 else 0) else
 bif x11 then (let x13 : Int := (IntKind.wrap .i64 (btField a0 20 5))
 let x14 : Int := (rvEnc_0 (rvOpOf a0) 0 0 x13 x8)
 let x15 : Int := (rvEnc_1 (rvOpOf a0) 0 0 x13 x8)
 bif icmp .neq x15 0 then 0 else
 bif icmp .neq x14 a0 then 0 else x13) else
 let x14 : Bool := (icmp .neq (rvEnc_1 (rvOpOf a0) 0 0 0 x8) 0)
 bif x14 then 0 else
 let x15 : Bool := (icmp .neq (rvEnc_0 (rvOpOf a0) 0 0 0 x8) a0)
 bif x15 then 0 else 0) else 0
def rvDec_4 (a0 : Int) : Int :=
 bif (rvOf_5 (rvOpOf a0)) then (let x8 : Int := (rvNumOf (rvOf_1 (rvOpOf a0)) a0)
 let x10 : Bool := (rvParts_1 (rvOf_1 (rvOpOf a0)))
 let x11 : Bool := (rvParts_2 (rvOf_1 (rvOpOf a0)))
 bif (rvParts_0 (rvOf_1 (rvOpOf a0))) then (let x13 : Int := (IntKind.wrap .i64 (btField a0 7 5))
 bif x10 then (let x15 : Int := (IntKind.wrap .i64 (btField a0 15 5))
 bif x11 then (let x17 : Int := (IntKind.wrap .i64 (btField a0 20 5))
 let x18 : Int := (rvEnc_0 (rvOpOf a0) x13 x15 x17 x8)
 let x19 : Int := (rvEnc_1 (rvOpOf a0) x13 x15 x17 x8)
 bif icmp .neq x19 0 then 0 else
 bif icmp .neq x18 a0 then 0 else x8) else
 let x16 : Int := (rvEnc_0 (rvOpOf a0) x13 x15 0 x8)
 let x17 : Int := (rvEnc_1 (rvOpOf a0) x13 x15 0 x8)
 bif icmp .neq x17 0 then 0 else
 bif icmp .neq x16 a0 then 0 else x8) else
 bif x11 then (let x15 : Int := (IntKind.wrap .i64 (btField a0 20 5))
 let x16 : Int := (rvEnc_0 (rvOpOf a0) x13 0 x15 x8)
 let x17 : Int := (rvEnc_1 (rvOpOf a0) x13 0 x15 x8)
 bif icmp .neq x17 0 then 0 else
 bif icmp .neq x16 a0 then 0 else x8) else
 let x14 : Int := (rvEnc_0 (rvOpOf a0) x13 0 0 x8)
 let x15 : Int := (rvEnc_1 (rvOpOf a0) x13 0 0 x8)
 bif icmp .neq x15 0 then 0 else
 bif icmp .neq x14 a0 then 0 else x8) else
 bif x10 then (let x13 : Int := (IntKind.wrap .i64 (btField a0 15 5))
 bif x11 then (let x15 : Int := (IntKind.wrap .i64 (btField a0 20 5))
 let x16 : Int := (rvEnc_0 (rvOpOf a0) 0 x13 x15 x8)
 let x17 : Int := (rvEnc_1 (rvOpOf a0) 0 x13 x15 x8)
 bif icmp .neq x17 0 then 0 else
 bif icmp .neq x16 a0 then 0 else x8) else
 let x14 : Int := (rvEnc_0 (rvOpOf a0) 0 x13 0 x8)
 let x15 : Int := (rvEnc_1 (rvOpOf a0) 0 x13 0 x8)
 bif icmp .neq x15 0 then 0 else
 bif icmp .neq x14 a0 then 0 else x8) else
 bif x11 then (let x13 : Int := (IntKind.wrap .i64 (btField a0 20 5))
 let x14 : Int := (rvEnc_0 (rvOpOf a0) 0 0 x13 x8)
 let x15 : Int := (rvEnc_1 (rvOpOf a0) 0 0 x13 x8)
 bif icmp .neq x15 0 then 0 else
 bif icmp .neq x14 a0 then 0 else x8) else
 let x14 : Bool := (icmp .neq (rvEnc_1 (rvOpOf a0) 0 0 0 x8) 0)
 bif x14 then 0 else
 let x15 : Bool := (icmp .neq (rvEnc_0 (rvOpOf a0) 0 0 0 x8) a0)
 bif x15 then 0 else x8) else 0
def rvDec_5 (a0 : Int) : Bool :=
 bif (rvOf_5 (rvOpOf a0)) then (let x8 : Int := (rvNumOf (rvOf_1 (rvOpOf a0)) a0)
 let x10 : Bool := (rvParts_1 (rvOf_1 (rvOpOf a0)))
 let x11 : Bool := (rvParts_2 (rvOf_1 (rvOpOf a0)))
 bif (rvParts_0 (rvOf_1 (rvOpOf a0))) then (let x13 : Int := (IntKind.wrap .i64 (btField a0 7 5))
 bif x10 then (let x15 : Int := (IntKind.wrap .i64 (btField a0 15 5))
 bif x11 then (let x17 : Int := (IntKind.wrap .i64 (btField a0 20 5))
 let x18 : Int := (rvEnc_0 (rvOpOf a0) x13 x15 x17 x8)
 let x19 : Int := (rvEnc_1 (rvOpOf a0) x13 x15 x17 x8)
 bif icmp .neq x19 0 then false else
 bif icmp .neq x18 a0 then false else true) else
 let x16 : Int := (rvEnc_0 (rvOpOf a0) x13 x15 0 x8)
 let x17 : Int := (rvEnc_1 (rvOpOf a0) x13 x15 0 x8)
 bif icmp .neq x17 0 then false else
 bif icmp .neq x16 a0 then false else true) else
 bif x11 then (let x15 : Int := (IntKind.wrap .i64 (btField a0 20 5))
 let x16 : Int := (rvEnc_0 (rvOpOf a0) x13 0 x15 x8)
 let x17 : Int := (rvEnc_1 (rvOpOf a0) x13 0 x15 x8)
 bif icmp .neq x17 0 then false else
 bif icmp .neq x16 a0 then false else true) else
 let x14 : Int := (rvEnc_0 (rvOpOf a0) x13 0 0 x8)
 let x15 : Int := (rvEnc_1 (rvOpOf a0) x13 0 0 x8)
 bif icmp .neq x15 0 then false else
 bif icmp .neq x14 a0 then false else true) else
 bif x10 then (let x13 : Int := (IntKind.wrap .i64 (btField a0 15 5))
 bif x11 then (let x15 : Int := (IntKind.wrap .i64 (btField a0 20 5))
 let x16 : Int := (rvEnc_0 (rvOpOf a0) 0 x13 x15 x8)
 let x17 : Int := (rvEnc_1 (rvOpOf a0) 0 x13 x15 x8)
 bif icmp .neq x17 0 then false else
 bif icmp .neq x16 a0 then false else true) else
 let x14 : Int := (rvEnc_0 (rvOpOf a0) 0 x13 0 x8)
 let x15 : Int := (rvEnc_1 (rvOpOf a0) 0 x13 0 x8)
 bif icmp .neq x15 0 then false else
 bif icmp .neq x14 a0 then false else true) else
 bif x11 then (let x13 : Int := (IntKind.wrap .i64 (btField a0 20 5))
 let x14 : Int := (rvEnc_0 (rvOpOf a0) 0 0 x13 x8)
 let x15 : Int := (rvEnc_1 (rvOpOf a0) 0 0 x13 x8)
 bif icmp .neq x15 0 then false else
 bif icmp .neq x14 a0 then false else true) else
 let x14 : Bool := (icmp .neq (rvEnc_1 (rvOpOf a0) 0 0 0 x8) 0)
 bif x14 then false else
 let x15 : Bool := (icmp .neq (rvEnc_0 (rvOpOf a0) 0 0 0 x8) a0)
 bif x15 then false else true) else false
def rfOf_0 (a0 : Int) : Int :=
 bif icmp .lss a0 1 then 0 else
 bif icmp .gtr a0 47 then 0 else
 bif icmp .eql a0 47 then 69 else
 bif decide (a0 = 1) then 85 else
 bif decide (a0 = 2) then 85 else
 bif decide (a0 = 3) then 74 else
 bif decide (a0 = 4) then 73 else
 bif decide (a0 = 5) then 66 else
 bif decide (a0 = 6) then 66 else
 bif decide (a0 = 7) then 66 else
 bif decide (a0 = 8) then 66 else
 bif decide (a0 = 9) then 66 else
 bif decide (a0 = 10) then 66 else
 bif decide (a0 = 11) then 73 else
 bif decide (a0 = 12) then 73 else
 bif decide (a0 = 13) then 73 else
 bif decide (a0 = 14) then 73 else
 bif decide (a0 = 15) then 73 else
 bif decide (a0 = 16) then 83 else
 bif decide (a0 = 17) then 83 else
 bif decide (a0 = 18) then 83 else
 bif decide (a0 = 19) then 73 else
 bif decide (a0 = 20) then 73 else
 bif decide (a0 = 21) then 73 else
 bif decide (a0 = 22) then 73 else
 bif decide (a0 = 23) then 73 else
 bif decide (a0 = 24) then 73 else
 bif decide (a0 = 25) then 72 else
 bif decide (a0 = 26) then 72 else
 bif decide (a0 = 27) then 72 else
 bif decide (a0 = 28) then 82 else
 bif decide (a0 = 29) then 82 else
 bif decide (a0 = 30) then 82 else
 bif decide (a0 = 31) then 82 else
 bif decide (a0 = 32) then 82 else
 bif decide (a0 = 33) then 82 else
 bif decide (a0 = 34) then 82 else
 bif decide (a0 = 35) then 82 else
 bif decide (a0 = 36) then 82 else
 bif decide (a0 = 37) then 82 else
 bif decide (a0 = 38) then 82 else
 bif decide (a0 = 39) then 82 else
 bif decide (a0 = 40) then 82 else
 bif decide (a0 = 41) then 82 else
 bif decide (a0 = 42) then 82 else
 bif decide (a0 = 43) then 82 else
 bif decide (a0 = 44) then 82 else
 bif decide (a0 = 45) then 82 else
 bif decide (a0 = 46) then 69 else 0
def rfOf_1 (a0 : Int) : Int :=
 bif icmp .lss a0 1 then 0 else
 bif icmp .gtr a0 47 then 0 else
 bif icmp .eql a0 47 then 115 else
 bif decide (a0 = 1) then 55 else
 bif decide (a0 = 2) then 23 else
 bif decide (a0 = 3) then 111 else
 bif decide (a0 = 4) then 103 else
 bif decide (a0 = 5) then 99 else
 bif decide (a0 = 6) then 99 else
 bif decide (a0 = 7) then 99 else
 bif decide (a0 = 8) then 99 else
 bif decide (a0 = 9) then 99 else
 bif decide (a0 = 10) then 99 else
 bif decide (a0 = 11) then 3 else
 bif decide (a0 = 12) then 3 else
 bif decide (a0 = 13) then 3 else
 bif decide (a0 = 14) then 3 else
 bif decide (a0 = 15) then 3 else
 bif decide (a0 = 16) then 35 else
 bif decide (a0 = 17) then 35 else
 bif decide (a0 = 18) then 35 else
 bif decide (a0 = 19) then 19 else
 bif decide (a0 = 20) then 19 else
 bif decide (a0 = 21) then 19 else
 bif decide (a0 = 22) then 19 else
 bif decide (a0 = 23) then 19 else
 bif decide (a0 = 24) then 19 else
 bif decide (a0 = 25) then 19 else
 bif decide (a0 = 26) then 19 else
 bif decide (a0 = 27) then 19 else
 bif decide (a0 = 28) then 51 else
 bif decide (a0 = 29) then 51 else
 bif decide (a0 = 30) then 51 else
 bif decide (a0 = 31) then 51 else
 bif decide (a0 = 32) then 51 else
 bif decide (a0 = 33) then 51 else
 bif decide (a0 = 34) then 51 else
 bif decide (a0 = 35) then 51 else
 bif decide (a0 = 36) then 51 else
 bif decide (a0 = 37) then 51 else
 bif decide (a0 = 38) then 51 else
 bif decide (a0 = 39) then 51 else
 bif decide (a0 = 40) then 51 else
 bif decide (a0 = 41) then 51 else
 bif decide (a0 = 42) then 51 else
 bif decide (a0 = 43) then 51 else
 bif decide (a0 = 44) then 51 else
 bif decide (a0 = 45) then 51 else
 bif decide (a0 = 46) then 115 else 0
def rfOf_2 (a0 : Int) : Int :=
 bif icmp .lss a0 1 then 0 else
 bif icmp .gtr a0 47 then 0 else
 bif icmp .eql a0 47 then 0 else
 bif decide (a0 = 1) then 0 else
 bif decide (a0 = 2) then 0 else
 bif decide (a0 = 3) then 0 else
 bif decide (a0 = 4) then 0 else
 bif decide (a0 = 5) then 0 else
 bif decide (a0 = 6) then 1 else
 bif decide (a0 = 7) then 4 else
 bif decide (a0 = 8) then 5 else
 bif decide (a0 = 9) then 6 else
 bif decide (a0 = 10) then 7 else
 bif decide (a0 = 11) then 0 else
 bif decide (a0 = 12) then 1 else
 bif decide (a0 = 13) then 2 else
 bif decide (a0 = 14) then 4 else
 bif decide (a0 = 15) then 5 else
 bif decide (a0 = 16) then 0 else
 bif decide (a0 = 17) then 1 else
 bif decide (a0 = 18) then 2 else
 bif decide (a0 = 19) then 0 else
 bif decide (a0 = 20) then 2 else
 bif decide (a0 = 21) then 3 else
 bif decide (a0 = 22) then 4 else
 bif decide (a0 = 23) then 6 else
 bif decide (a0 = 24) then 7 else
 bif decide (a0 = 25) then 1 else
 bif decide (a0 = 26) then 5 else
 bif decide (a0 = 27) then 5 else
 bif decide (a0 = 28) then 0 else
 bif decide (a0 = 29) then 0 else
 bif decide (a0 = 30) then 1 else
 bif decide (a0 = 31) then 2 else
 bif decide (a0 = 32) then 3 else
 bif decide (a0 = 33) then 4 else
 bif decide (a0 = 34) then 5 else
 bif decide (a0 = 35) then 5 else
 bif decide (a0 = 36) then 6 else
 bif decide (a0 = 37) then 7 else
 bif decide (a0 = 38) then 0 else
 bif decide (a0 = 39) then 1 else
 bif decide (a0 = 40) then 2 else
 bif decide (a0 = 41) then 3 else
 bif decide (a0 = 42) then 4 else
 bif decide (a0 = 43) then 5 else
 bif decide (a0 = 44) then 6 else
 bif decide (a0 = 45) then 7 else
 bif decide (a0 = 46) then 0 else 0
def rfOf_3 (a0 : Int) : Int :=
 bif icmp .lss a0 1 then 0 else
 bif icmp .gtr a0 47 then 0 else
 bif icmp .eql a0 47 then 1 else
 bif decide (a0 = 1) then 0 else
 bif decide (a0 = 2) then 0 else
 bif decide (a0 = 3) then 0 else
 bif decide (a0 = 4) then 0 else
 bif decide (a0 = 5) then 0 else
 bif decide (a0 = 6) then 0 else
 bif decide (a0 = 7) then 0 else
 bif decide (a0 = 8) then 0 else
 bif decide (a0 = 9) then 0 else
 bif decide (a0 = 10) then 0 else
 bif decide (a0 = 11) then 0 else
 bif decide (a0 = 12) then 0 else
 bif decide (a0 = 13) then 0 else
 bif decide (a0 = 14) then 0 else
 bif decide (a0 = 15) then 0 else
 bif decide (a0 = 16) then 0 else
 bif decide (a0 = 17) then 0 else
 bif decide (a0 = 18) then 0 else
 bif decide (a0 = 19) then 0 else
 bif decide (a0 = 20) then 0 else
 bif decide (a0 = 21) then 0 else
 bif decide (a0 = 22) then 0 else
 bif decide (a0 = 23) then 0 else
 bif decide (a0 = 24) then 0 else
 bif decide (a0 = 25) then 0 else
 bif decide (a0 = 26) then 0 else
 bif decide (a0 = 27) then 32 else
 bif decide (a0 = 28) then 0 else
 bif decide (a0 = 29) then 32 else
 bif decide (a0 = 30) then 0 else
 bif decide (a0 = 31) then 0 else
 bif decide (a0 = 32) then 0 else
 bif decide (a0 = 33) then 0 else
 bif decide (a0 = 34) then 0 else
 bif decide (a0 = 35) then 32 else
 bif decide (a0 = 36) then 0 else
 bif decide (a0 = 37) then 0 else
 bif decide (a0 = 38) then 1 else
 bif decide (a0 = 39) then 1 else
 bif decide (a0 = 40) then 1 else
 bif decide (a0 = 41) then 1 else
 bif decide (a0 = 42) then 1 else
 bif decide (a0 = 43) then 1 else
 bif decide (a0 = 44) then 1 else
 bif decide (a0 = 45) then 1 else
 bif decide (a0 = 46) then 0 else 0
def rfIs (a0 a1 a2 a3 a4 : Int) : Bool :=
 bif (icmp .eql (rfOf_0 a0) 85) then (bif icmp .geq a1 0 then (bif icmp .lss a1 32 then (bif icmp .eql a2 0 then (bif icmp .eql a3 0 then (let x16 : Int := (ibin .and .u32 (IntKind.wrap .u32 a4) 4095)
 (icmp .eql x16 0)) else false) else false) else false) else false) else
 bif (icmp .eql (rfOf_0 a0) 74) then (bif icmp .geq a1 0 then (bif icmp .lss a1 32 then (bif icmp .eql a2 0 then (bif icmp .eql a3 0 then (let x17 : Bool := (icmp .eql (ibin .and .i32 a4 1) 0)
 bif x17 then (let x19 : Int := (rfSigned (IntKind.wrap .u32 a4) 21)
 (icmp .eql x19 a4)) else false) else false) else false) else false) else false) else
 bif (icmp .eql (rfOf_0 a0) 73) then (bif icmp .geq a1 0 then (bif icmp .lss a1 32 then (bif icmp .geq a2 0 then (bif icmp .lss a2 32 then (bif icmp .eql a3 0 then (let x20 : Int := (rfSigned (IntKind.wrap .u32 a4) 12)
 (icmp .eql x20 a4)) else false) else false) else false) else false) else false) else
 bif (icmp .eql (rfOf_0 a0) 72) then (bif icmp .geq a1 0 then (bif icmp .lss a1 32 then (bif icmp .geq a2 0 then (bif icmp .lss a2 32 then (bif icmp .eql a3 0 then (bif icmp .geq a4 0 then icmp .lss a4 32 else false) else false) else false) else false) else false) else false) else
 bif (icmp .eql (rfOf_0 a0) 66) then (bif icmp .eql a1 0 then (bif icmp .geq a2 0 then (bif icmp .lss a2 32 then (bif icmp .geq a3 0 then (bif icmp .lss a3 32 then (let x22 : Bool := (icmp .eql (ibin .and .i32 a4 1) 0)
 bif x22 then (let x24 : Int := (rfSigned (IntKind.wrap .u32 a4) 13)
 (icmp .eql x24 a4)) else false) else false) else false) else false) else false) else false) else
 bif (icmp .eql (rfOf_0 a0) 83) then (bif icmp .eql a1 0 then (bif icmp .geq a2 0 then (bif icmp .lss a2 32 then (bif icmp .geq a3 0 then (bif icmp .lss a3 32 then (let x23 : Int := (rfSigned (IntKind.wrap .u32 a4) 12)
 (icmp .eql x23 a4)) else false) else false) else false) else false) else false) else
 bif (icmp .eql (rfOf_0 a0) 82) then (bif icmp .geq a1 0 then (bif icmp .lss a1 32 then (bif icmp .geq a2 0 then (bif icmp .lss a2 32 then (bif icmp .geq a3 0 then (bif icmp .lss a3 32 then icmp .eql a4 0 else false) else false) else false) else false) else false) else false) else
 bif (icmp .eql (rfOf_0 a0) 69) then (bif icmp .eql a1 0 then (bif icmp .eql a2 0 then (bif icmp .eql a3 0 then icmp .eql a4 0 else false) else false) else false) else false
def rfEnc_0 (a0 a1 a2 a3 a4 : Int) : Int :=
 bif (rfIs a0 a1 a2 a3 a4) then (let x12 : Int := (ibin .or .u32 (rfOf_1 a0) (ibin .shl .u32 (rfOf_2 a0) 12))
 let x14 : Int := (ibin .shl .u32 (IntKind.wrap .u32 a1) 7)
 let x16 : Int := (ibin .shl .u32 (IntKind.wrap .u32 a2) 15)
 let x18 : Int := (ibin .shl .u32 (IntKind.wrap .u32 a3) 20)
 bif (icmp .eql (rfOf_0 a0) 85) then (let x20 : Int := (ibin .or .u32 (rfOf_1 a0) x14)
 let x21 : Int := (ibin .or .u32 x20 (IntKind.wrap .u32 a4))
 x21) else
 bif (icmp .eql (rfOf_0 a0) 74) then (let x21 : Int := (ibin .or .u32 (rfOf_1 a0) x14)
 let x22 : Int := (rfField (IntKind.wrap .u32 a4) 12 8)
 let x24 : Int := (ibin .or .u32 x21 (ibin .shl .u32 x22 12))
 let x25 : Int := (rfField (IntKind.wrap .u32 a4) 11 1)
 let x27 : Int := (ibin .or .u32 x24 (ibin .shl .u32 x25 20))
 let x28 : Int := (rfField (IntKind.wrap .u32 a4) 1 10)
 let x30 : Int := (ibin .or .u32 x27 (ibin .shl .u32 x28 21))
 let x31 : Int := (rfField (IntKind.wrap .u32 a4) 20 1)
 let x33 : Int := (ibin .or .u32 x30 (ibin .shl .u32 x31 31))
 x33) else
 bif (icmp .eql (rfOf_0 a0) 73) then (let x23 : Int := (ibin .or .u32 (ibin .or .u32 x12 x14) x16)
 let x24 : Int := (ibin .shl .u32 (IntKind.wrap .u32 a4) 20)
 (ibin .or .u32 x23 x24)) else
 bif (icmp .eql (rfOf_0 a0) 72) then (let x24 : Int := (ibin .or .u32 (ibin .or .u32 x12 x14) x16)
 let x25 : Int := (ibin .shl .u32 (IntKind.wrap .u32 a4) 20)
 let x27 : Int := (ibin .shl .u32 (rfOf_3 a0) 25)
 let x28 : Int := (ibin .or .u32 (ibin .or .u32 x24 x25) x27)
 x28) else
 bif (icmp .eql (rfOf_0 a0) 66) then (let x25 : Int := (ibin .or .u32 (ibin .or .u32 x12 x16) x18)
 let x26 : Int := (rfField (IntKind.wrap .u32 a4) 11 1)
 let x28 : Int := (ibin .or .u32 x25 (ibin .shl .u32 x26 7))
 let x29 : Int := (rfField (IntKind.wrap .u32 a4) 1 4)
 let x31 : Int := (ibin .or .u32 x28 (ibin .shl .u32 x29 8))
 let x32 : Int := (rfField (IntKind.wrap .u32 a4) 5 6)
 (ibin .or .u32 (ibin .or .u32 x31 (ibin .shl .u32 x32 25)) (ibin .shl .u32 (rfField (IntKind.wrap .u32 a4) 12 1) 31))) else
 bif (icmp .eql (rfOf_0 a0) 83) then (let x26 : Int := (ibin .or .u32 (ibin .or .u32 x12 x16) x18)
 let x27 : Int := (rfField (IntKind.wrap .u32 a4) 0 5)
 let x29 : Int := (ibin .or .u32 x26 (ibin .shl .u32 x27 7))
 let x30 : Int := (rfField (IntKind.wrap .u32 a4) 5 7)
 let x32 : Int := (ibin .or .u32 x29 (ibin .shl .u32 x30 25))
 x32) else
 bif (icmp .eql (rfOf_0 a0) 82) then (let x27 : Int := (ibin .or .u32 (ibin .or .u32 x12 x14) x16)
 let x29 : Int := (ibin .shl .u32 (rfOf_3 a0) 25)
 let x30 : Int := (ibin .or .u32 (ibin .or .u32 x27 x18) x29)
 x30) else
 let x26 : Int := (ibin .shl .u32 (rfOf_3 a0) 20)
 let x27 : Int := (ibin .or .u32 (rfOf_1 a0) x26)
 x27) else 0
def rfEnc_1 (a0 a1 a2 a3 a4 : Int) : Bool :=
 bif (rfIs a0 a1 a2 a3 a4) then (bif (icmp .eql (rfOf_0 a0) 85) then true else
 bif (icmp .eql (rfOf_0 a0) 74) then true else
 bif (icmp .eql (rfOf_0 a0) 73) then true else
 bif (icmp .eql (rfOf_0 a0) 72) then true else
 bif (icmp .eql (rfOf_0 a0) 66) then true else
 bif (icmp .eql (rfOf_0 a0) 83) then true else
 bif (icmp .eql (rfOf_0 a0) 82) then true else true) else false
def rfDec_0 (a0 : Int) : Int :=
 let x3 : Int := (IntKind.wrap .i64 (ibin .and .u32 (ibin .shr .u32 a0 7) 31))
 let x6 : Int := (IntKind.wrap .i64 (ibin .and .u32 (ibin .shr .u32 a0 15) 31))
 let x9 : Int := (IntKind.wrap .i64 (ibin .and .u32 (ibin .shr .u32 a0 20) 31))
 let x16 : Int := (IntKind.wrap .i32 (ibin .and .u32 a0 4294963200))
 bif (icmp .eql (rfEnc_0 1 x3 0 0 x16) a0) then 1 else
 let x26 : Int := (IntKind.wrap .i32 (ibin .and .u32 a0 4294963200))
 bif (icmp .eql (rfEnc_0 2 x3 0 0 x26) a0) then 2 else
 let x47 : Int := (rfSigned (ibin .or .u32 (ibin .or .u32 (ibin .or .u32 (ibin .shl .u32 (rfField a0 12 8) 12) (ibin .shl .u32 (rfField a0 20 1) 11)) (ibin .shl .u32 (rfField a0 21 10) 1)) (ibin .shl .u32 (rfField a0 31 1) 20)) 21)
 bif (icmp .eql (rfEnc_0 3 x3 0 0 x47) a0) then 3 else
 let x59 : Int := (ibin .shr .i32 (IntKind.wrap .i32 a0) 20)
 bif (icmp .eql (rfEnc_0 4 x3 x6 0 x59) a0) then 4 else
 let x83 : Int := (rfSigned (ibin .or .u32 (ibin .or .u32 (ibin .or .u32 (ibin .shl .u32 (rfField a0 7 1) 11) (ibin .shl .u32 (rfField a0 8 4) 1)) (ibin .shl .u32 (rfField a0 25 6) 5)) (ibin .shl .u32 (rfField a0 31 1) 12)) 13)
 bif (icmp .eql (rfEnc_0 5 0 x6 x9 x83) a0) then 5 else
 let x107 : Int := (rfSigned (ibin .or .u32 (ibin .or .u32 (ibin .or .u32 (ibin .shl .u32 (rfField a0 7 1) 11) (ibin .shl .u32 (rfField a0 8 4) 1)) (ibin .shl .u32 (rfField a0 25 6) 5)) (ibin .shl .u32 (rfField a0 31 1) 12)) 13)
 bif (icmp .eql (rfEnc_0 6 0 x6 x9 x107) a0) then 6 else
 let x131 : Int := (rfSigned (ibin .or .u32 (ibin .or .u32 (ibin .or .u32 (ibin .shl .u32 (rfField a0 7 1) 11) (ibin .shl .u32 (rfField a0 8 4) 1)) (ibin .shl .u32 (rfField a0 25 6) 5)) (ibin .shl .u32 (rfField a0 31 1) 12)) 13)
 bif (icmp .eql (rfEnc_0 7 0 x6 x9 x131) a0) then 7 else
 let x155 : Int := (rfSigned (ibin .or .u32 (ibin .or .u32 (ibin .or .u32 (ibin .shl .u32 (rfField a0 7 1) 11) (ibin .shl .u32 (rfField a0 8 4) 1)) (ibin .shl .u32 (rfField a0 25 6) 5)) (ibin .shl .u32 (rfField a0 31 1) 12)) 13)
 bif (icmp .eql (rfEnc_0 8 0 x6 x9 x155) a0) then 8 else
 let x179 : Int := (rfSigned (ibin .or .u32 (ibin .or .u32 (ibin .or .u32 (ibin .shl .u32 (rfField a0 7 1) 11) (ibin .shl .u32 (rfField a0 8 4) 1)) (ibin .shl .u32 (rfField a0 25 6) 5)) (ibin .shl .u32 (rfField a0 31 1) 12)) 13)
 bif (icmp .eql (rfEnc_0 9 0 x6 x9 x179) a0) then 9 else
 let x203 : Int := (rfSigned (ibin .or .u32 (ibin .or .u32 (ibin .or .u32 (ibin .shl .u32 (rfField a0 7 1) 11) (ibin .shl .u32 (rfField a0 8 4) 1)) (ibin .shl .u32 (rfField a0 25 6) 5)) (ibin .shl .u32 (rfField a0 31 1) 12)) 13)
 bif (icmp .eql (rfEnc_0 10 0 x6 x9 x203) a0) then 10 else
 let x215 : Int := (ibin .shr .i32 (IntKind.wrap .i32 a0) 20)
 bif (icmp .eql (rfEnc_0 11 x3 x6 0 x215) a0) then 11 else
 let x227 : Int := (ibin .shr .i32 (IntKind.wrap .i32 a0) 20)
 bif (icmp .eql (rfEnc_0 12 x3 x6 0 x227) a0) then 12 else
 let x239 : Int := (ibin .shr .i32 (IntKind.wrap .i32 a0) 20)
 bif (icmp .eql (rfEnc_0 13 x3 x6 0 x239) a0) then 13 else
 let x251 : Int := (ibin .shr .i32 (IntKind.wrap .i32 a0) 20)
 bif (icmp .eql (rfEnc_0 14 x3 x6 0 x251) a0) then 14 else
 let x263 : Int := (ibin .shr .i32 (IntKind.wrap .i32 a0) 20)
 bif (icmp .eql (rfEnc_0 15 x3 x6 0 x263) a0) then 15 else
 let x282 : Int := (rfSigned (ibin .or .u32 (ibin .shl .u32 (rfField a0 7 5) 0) (ibin .shl .u32 (rfField a0 25 7) 5)) 12)
 bif (icmp .eql (rfEnc_0 16 0 x6 x9 x282) a0) then 16 else
 let x301 : Int := (rfSigned (ibin .or .u32 (ibin .shl .u32 (rfField a0 7 5) 0) (ibin .shl .u32 (rfField a0 25 7) 5)) 12)
 bif (icmp .eql (rfEnc_0 17 0 x6 x9 x301) a0) then 17 else
 let x320 : Int := (rfSigned (ibin .or .u32 (ibin .shl .u32 (rfField a0 7 5) 0) (ibin .shl .u32 (rfField a0 25 7) 5)) 12)
 bif (icmp .eql (rfEnc_0 18 0 x6 x9 x320) a0) then 18 else
 let x332 : Int := (ibin .shr .i32 (IntKind.wrap .i32 a0) 20)
 bif (icmp .eql (rfEnc_0 19 x3 x6 0 x332) a0) then 19 else
 let x344 : Int := (ibin .shr .i32 (IntKind.wrap .i32 a0) 20)
 bif (icmp .eql (rfEnc_0 20 x3 x6 0 x344) a0) then 20 else
 let x356 : Int := (ibin .shr .i32 (IntKind.wrap .i32 a0) 20)
 bif (icmp .eql (rfEnc_0 21 x3 x6 0 x356) a0) then 21 else
 let x368 : Int := (ibin .shr .i32 (IntKind.wrap .i32 a0) 20)
 bif (icmp .eql (rfEnc_0 22 x3 x6 0 x368) a0) then 22 else
 let x380 : Int := (ibin .shr .i32 (IntKind.wrap .i32 a0) 20)
 bif (icmp .eql (rfEnc_0 23 x3 x6 0 x380) a0) then 23 else
 let x392 : Int := (ibin .shr .i32 (IntKind.wrap .i32 a0) 20)
 bif (icmp .eql (rfEnc_0 24 x3 x6 0 x392) a0) then 24 else
 bif (icmp .eql (rfEnc_0 25 x3 x6 0 (IntKind.wrap .i32 x9)) a0) then 25 else
 bif (icmp .eql (rfEnc_0 26 x3 x6 0 (IntKind.wrap .i32 x9)) a0) then 26 else
 bif (icmp .eql (rfEnc_0 27 x3 x6 0 (IntKind.wrap .i32 x9)) a0) then 27 else
 bif (icmp .eql (rfEnc_0 28 x3 x6 x9 0) a0) then 28 else
 bif (icmp .eql (rfEnc_0 29 x3 x6 x9 0) a0) then 29 else
 bif (icmp .eql (rfEnc_0 30 x3 x6 x9 0) a0) then 30 else
 bif (icmp .eql (rfEnc_0 31 x3 x6 x9 0) a0) then 31 else
 bif (icmp .eql (rfEnc_0 32 x3 x6 x9 0) a0) then 32 else
 bif (icmp .eql (rfEnc_0 33 x3 x6 x9 0) a0) then 33 else
 bif (icmp .eql (rfEnc_0 34 x3 x6 x9 0) a0) then 34 else
 bif (icmp .eql (rfEnc_0 35 x3 x6 x9 0) a0) then 35 else
 bif (icmp .eql (rfEnc_0 36 x3 x6 x9 0) a0) then 36 else
 bif (icmp .eql (rfEnc_0 37 x3 x6 x9 0) a0) then 37 else
 bif (icmp .eql (rfEnc_0 38 x3 x6 x9 0) a0) then 38 else
 bif (icmp .eql (rfEnc_0 39 x3 x6 x9 0) a0) then 39 else
 bif (icmp .eql (rfEnc_0 40 x3 x6 x9 0) a0) then 40 else
 bif (icmp .eql (rfEnc_0 41 x3 x6 x9 0) a0) then 41 else
 bif (icmp .eql (rfEnc_0 42 x3 x6 x9 0) a0) then 42 else
 bif (icmp .eql (rfEnc_0 43 x3 x6 x9 0) a0) then 43 else
 bif (icmp .eql (rfEnc_0 44 x3 x6 x9 0) a0) then 44 else
 bif (icmp .eql (rfEnc_0 45 x3 x6 x9 0) a0) then 45 else
 bif (icmp .eql (rfEnc_0 46 0 0 0 0) a0) then 46 else
 bif (icmp .eql (rfEnc_0 47 0 0 0 0) a0) then 47 else 0
def rfDec_1 (a0 : Int) : Int :=
 let x3 : Int := (IntKind.wrap .i64 (ibin .and .u32 (ibin .shr .u32 a0 7) 31))
 let x6 : Int := (IntKind.wrap .i64 (ibin .and .u32 (ibin .shr .u32 a0 15) 31))
 let x9 : Int := (IntKind.wrap .i64 (ibin .and .u32 (ibin .shr .u32 a0 20) 31))
 let x16 : Int := (IntKind.wrap .i32 (ibin .and .u32 a0 4294963200))
 bif (icmp .eql (rfEnc_0 1 x3 0 0 x16) a0) then x3 else
 let x26 : Int := (IntKind.wrap .i32 (ibin .and .u32 a0 4294963200))
 bif (icmp .eql (rfEnc_0 2 x3 0 0 x26) a0) then x3 else
 let x47 : Int := (rfSigned (ibin .or .u32 (ibin .or .u32 (ibin .or .u32 (ibin .shl .u32 (rfField a0 12 8) 12) (ibin .shl .u32 (rfField a0 20 1) 11)) (ibin .shl .u32 (rfField a0 21 10) 1)) (ibin .shl .u32 (rfField a0 31 1) 20)) 21)
 bif (icmp .eql (rfEnc_0 3 x3 0 0 x47) a0) then x3 else
 let x59 : Int := (ibin .shr .i32 (IntKind.wrap .i32 a0) 20)
 bif (icmp .eql (rfEnc_0 4 x3 x6 0 x59) a0) then x3 else
 let x83 : Int := (rfSigned (ibin .or .u32 (ibin .or .u32 (ibin .or .u32 (ibin .shl .u32 (rfField a0 7 1) 11) (ibin .shl .u32 (rfField a0 8 4) 1)) (ibin .shl .u32 (rfField a0 25 6) 5)) (ibin .shl .u32 (rfField a0 31 1) 12)) 13)
 bif (icmp .eql (rfEnc_0 5 0 x6 x9 x83) a0) then 0 else
 let x107 : Int := (rfSigned (ibin .or .u32 (ibin .or .u32 (ibin .or .u32 (ibin .shl .u32 (rfField a0 7 1) 11) (ibin .shl .u32 (rfField a0 8 4) 1)) (ibin .shl .u32 (rfField a0 25 6) 5)) (ibin .shl .u32 (rfField a0 31 1) 12)) 13)
 bif (icmp .eql (rfEnc_0 6 0 x6 x9 x107) a0) then 0 else
 let x131 : Int := (rfSigned (ibin .or .u32 (ibin .or .u32 (ibin .or .u32 (ibin .shl .u32 (rfField a0 7 1) 11) (ibin .shl .u32 (rfField a0 8 4) 1)) (ibin .shl .u32 (rfField a0 25 6) 5)) (ibin .shl .u32 (rfField a0 31 1) 12)) 13)
 bif (icmp .eql (rfEnc_0 7 0 x6 x9 x131) a0) then 0 else
 let x155 : Int := (rfSigned (ibin .or .u32 (ibin .or .u32 (ibin .or .u32 (ibin .shl .u32 (rfField a0 7 1) 11) (ibin .shl .u32 (rfField a0 8 4) 1)) (ibin .shl .u32 (rfField a0 25 6) 5)) (ibin .shl .u32 (rfField a0 31 1) 12)) 13)
 bif (icmp .eql (rfEnc_0 8 0 x6 x9 x155) a0) then 0 else
 let x179 : Int := (rfSigned (ibin .or .u32 (ibin .or .u32 (ibin .or .u32 (ibin .shl .u32 (rfField a0 7 1) 11) (ibin .shl .u32 (rfField a0 8 4) 1)) (ibin .shl .u32 (rfField a0 25 6) 5)) (ibin .shl .u32 (rfField a0 31 1) 12)) 13)
 bif (icmp .eql (rfEnc_0 9 0 x6 x9 x179) a0) then 0 else
 let x203 : Int := (rfSigned (ibin .or .u32 (ibin .or .u32 (ibin .or .u32 (ibin .shl .u32 (rfField a0 7 1) 11) (ibin .shl .u32 (rfField a0 8 4) 1)) (ibin .shl .u32 (rfField a0 25 6) 5)) (ibin .shl .u32 (rfField a0 31 1) 12)) 13)
 bif (icmp .eql (rfEnc_0 10 0 x6 x9 x203) a0) then 0 else
 let x215 : Int := (ibin .shr .i32 (IntKind.wrap .i32 a0) 20)
 bif (icmp .eql (rfEnc_0 11 x3 x6 0 x215) a0) then x3 else
 let x227 : Int := (ibin .shr .i32 (IntKind.wrap .i32 a0) 20)
 bif (icmp .eql (rfEnc_0 12 x3 x6 0 x227) a0) then x3 else
 let x239 : Int := (ibin .shr .i32 (IntKind.wrap .i32 a0) 20)
 bif (icmp .eql (rfEnc_0 13 x3 x6 0 x239) a0) then x3 else
 let x251 : Int := (ibin .shr .i32 (IntKind.wrap .i32 a0) 20)
 bif (icmp .eql (rfEnc_0 14 x3 x6 0 x251) a0) then x3 else
 let x263 : Int := (ibin .shr .i32 (IntKind.wrap .i32 a0) 20)
 bif (icmp .eql (rfEnc_0 15 x3 x6 0 x263) a0) then x3 else
 let x282 : Int := (rfSigned (ibin .or .u32 (ibin .shl .u32 (rfField a0 7 5) 0) (ibin .shl .u32 (rfField a0 25 7) 5)) 12)
 bif (icmp .eql (rfEnc_0 16 0 x6 x9 x282) a0) then 0 else
 let x301 : Int := (rfSigned (ibin .or .u32 (ibin .shl .u32 (rfField a0 7 5) 0) (ibin .shl .u32 (rfField a0 25 7) 5)) 12)
 bif (icmp .eql (rfEnc_0 17 0 x6 x9 x301) a0) then 0 else
 let x320 : Int := (rfSigned (ibin .or .u32 (ibin .shl .u32 (rfField a0 7 5) 0) (ibin .shl .u32 (rfField a0 25 7) 5)) 12)
 bif (icmp .eql (rfEnc_0 18 0 x6 x9 x320) a0) then 0 else
 let x332 : Int := (ibin .shr .i32 (IntKind.wrap .i32 a0) 20)
 bif (icmp .eql (rfEnc_0 19 x3 x6 0 x332) a0) then x3 else
 let x344 : Int := (ibin .shr .i32 (IntKind.wrap .i32 a0) 20)
 bif (icmp .eql (rfEnc_0 20 x3 x6 0 x344) a0) then x3 else
 let x356 : Int := (ibin .shr .i32 (IntKind.wrap .i32 a0) 20)
 bif (icmp .eql (rfEnc_0 21 x3 x6 0 x356) a0) then x3 else
 let x368 : Int := (ibin .shr .i32 (IntKind.wrap .i32 a0) 20)
 bif (icmp .eql (rfEnc_0 22 x3 x6 0 x368) a0) then x3 else
 let x380 : Int := (ibin .shr .i32 (IntKind.wrap .i32 a0) 20)
 bif (icmp .eql (rfEnc_0 23 x3 x6 0 x380) a0) then x3 else
 let x392 : Int := (ibin .shr .i32 (IntKind.wrap .i32 a0) 20)
 bif (icmp .eql (rfEnc_0 24 x3 x6 0 x392) a0) then x3 else
 bif (icmp .eql (rfEnc_0 25 x3 x6 0 (IntKind.wrap .i32 x9)) a0) then x3 else
 bif (icmp .eql (rfEnc_0 26 x3 x6 0 (IntKind.wrap .i32 x9)) a0) then x3 else
 bif (icmp .eql (rfEnc_0 27 x3 x6 0 (IntKind.wrap .i32 x9)) a0) then x3 else
 bif (icmp .eql (rfEnc_0 28 x3 x6 x9 0) a0) then x3 else
 bif (icmp .eql (rfEnc_0 29 x3 x6 x9 0) a0) then x3 else
 bif (icmp .eql (rfEnc_0 30 x3 x6 x9 0) a0) then x3 else
 bif (icmp .eql (rfEnc_0 31 x3 x6 x9 0) a0) then x3 else
 bif (icmp .eql (rfEnc_0 32 x3 x6 x9 0) a0) then x3 else
 bif (icmp .eql (rfEnc_0 33 x3 x6 x9 0) a0) then x3 else
 bif (icmp .eql (rfEnc_0 34 x3 x6 x9 0) a0) then x3 else
 bif (icmp .eql (rfEnc_0 35 x3 x6 x9 0) a0) then x3 else
 bif (icmp .eql (rfEnc_0 36 x3 x6 x9 0) a0) then x3 else
 bif (icmp .eql (rfEnc_0 37 x3 x6 x9 0) a0) then x3 else
 bif (icmp .eql (rfEnc_0 38 x3 x6 x9 0) a0) then x3 else
 bif (icmp .eql (rfEnc_0 39 x3 x6 x9 0) a0) then x3 else
 bif (icmp .eql (rfEnc_0 40 x3 x6 x9 0) a0) then x3 else
 bif (icmp .eql (rfEnc_0 41 x3 x6 x9 0) a0) then x3 else
 bif (icmp .eql (rfEnc_0 42 x3 x6 x9 0) a0) then x3 else
 bif (icmp .eql (rfEnc_0 43 x3 x6 x9 0) a0) then x3 else
 bif (icmp .eql (rfEnc_0 44 x3 x6 x9 0) a0) then x3 else
 bif (icmp .eql (rfEnc_0 45 x3 x6 x9 0) a0) then x3 else
 bif (icmp .eql (rfEnc_0 46 0 0 0 0) a0) then 0 else
 bif (icmp .eql (rfEnc_0 47 0 0 0 0) a0) then 0 else 0
def rfDec_2 (a0 : Int) : Int :=
 let x3 : Int := (IntKind.wrap .i64 (ibin .and .u32 (ibin .shr .u32 a0 7) 31))
 let x6 : Int := (IntKind.wrap .i64 (ibin .and .u32 (ibin .shr .u32 a0 15) 31))
 let x9 : Int := (IntKind.wrap .i64 (ibin .and .u32 (ibin .shr .u32 a0 20) 31))
 let x16 : Int := (IntKind.wrap .i32 (ibin .and .u32 a0 4294963200))
 bif (icmp .eql (rfEnc_0 1 x3 0 0 x16) a0) then 0 else
 let x26 : Int := (IntKind.wrap .i32 (ibin .and .u32 a0 4294963200))
 bif (icmp .eql (rfEnc_0 2 x3 0 0 x26) a0) then 0 else
 let x47 : Int := (rfSigned (ibin .or .u32 (ibin .or .u32 (ibin .or .u32 (ibin .shl .u32 (rfField a0 12 8) 12) (ibin .shl .u32 (rfField a0 20 1) 11)) (ibin .shl .u32 (rfField a0 21 10) 1)) (ibin .shl .u32 (rfField a0 31 1) 20)) 21)
 bif (icmp .eql (rfEnc_0 3 x3 0 0 x47) a0) then 0 else
 let x59 : Int := (ibin .shr .i32 (IntKind.wrap .i32 a0) 20)
 bif (icmp .eql (rfEnc_0 4 x3 x6 0 x59) a0) then x6 else
 let x83 : Int := (rfSigned (ibin .or .u32 (ibin .or .u32 (ibin .or .u32 (ibin .shl .u32 (rfField a0 7 1) 11) (ibin .shl .u32 (rfField a0 8 4) 1)) (ibin .shl .u32 (rfField a0 25 6) 5)) (ibin .shl .u32 (rfField a0 31 1) 12)) 13)
 bif (icmp .eql (rfEnc_0 5 0 x6 x9 x83) a0) then x6 else
 let x107 : Int := (rfSigned (ibin .or .u32 (ibin .or .u32 (ibin .or .u32 (ibin .shl .u32 (rfField a0 7 1) 11) (ibin .shl .u32 (rfField a0 8 4) 1)) (ibin .shl .u32 (rfField a0 25 6) 5)) (ibin .shl .u32 (rfField a0 31 1) 12)) 13)
 bif (icmp .eql (rfEnc_0 6 0 x6 x9 x107) a0) then x6 else
 let x131 : Int := (rfSigned (ibin .or .u32 (ibin .or .u32 (ibin .or .u32 (ibin .shl .u32 (rfField a0 7 1) 11) (ibin .shl .u32 (rfField a0 8 4) 1)) (ibin .shl .u32 (rfField a0 25 6) 5)) (ibin .shl .u32 (rfField a0 31 1) 12)) 13)
 bif (icmp .eql (rfEnc_0 7 0 x6 x9 x131) a0) then x6 else
 let x155 : Int := (rfSigned (ibin .or .u32 (ibin .or .u32 (ibin .or .u32 (ibin .shl .u32 (rfField a0 7 1) 11) (ibin .shl .u32 (rfField a0 8 4) 1)) (ibin .shl .u32 (rfField a0 25 6) 5)) (ibin .shl .u32 (rfField a0 31 1) 12)) 13)
 bif (icmp .eql (rfEnc_0 8 0 x6 x9 x155) a0) then x6 else
 let x179 : Int := (rfSigned (ibin .or .u32 (ibin .or .u32 (ibin .or .u32 (ibin .shl .u32 (rfField a0 7 1) 11) (ibin .shl .u32 (rfField a0 8 4) 1)) (ibin .shl .u32 (rfField a0 25 6) 5)) (ibin .shl .u32 (rfField a0 31 1) 12)) 13)
 bif (icmp .eql (rfEnc_0 9 0 x6 x9 x179) a0) then x6 else
 let x203 : Int := (rfSigned (ibin .or .u32 (ibin .or .u32 (ibin .or .u32 (ibin .shl .u32 (rfField a0 7 1) 11) (ibin .shl .u32 (rfField a0 8 4) 1)) (ibin .shl .u32 (rfField a0 25 6) 5)) (ibin .shl .u32 (rfField a0 31 1) 12)) 13)
 bif (icmp .eql (rfEnc_0 10 0 x6 x9 x203) a0) then x6 else
 let x215 : Int := (ibin .shr .i32 (IntKind.wrap .i32 a0) 20)
 bif (icmp .eql (rfEnc_0 11 x3 x6 0 x215) a0) then x6 else
 let x227 : Int := (ibin .shr .i32 (IntKind.wrap .i32 a0) 20)
 bif (icmp .eql (rfEnc_0 12 x3 x6 0 x227) a0) then x6 else
 let x239 : Int := (ibin .shr .i32 (IntKind.wrap .i32 a0) 20)
 bif (icmp .eql (rfEnc_0 13 x3 x6 0 x239) a0) then x6 else
 let x251 : Int := (ibin .shr .i32 (IntKind.wrap .i32 a0) 20)
 bif (icmp .eql (rfEnc_0 14 x3 x6 0 x251) a0) then x6 else
 let x263 : Int := (ibin .shr .i32 (IntKind.wrap .i32 a0) 20)
 bif (icmp .eql (rfEnc_0 15 x3 x6 0 x263) a0) then x6 else
 let x282 : Int := (rfSigned (ibin .or .u32 (ibin .shl .u32 (rfField a0 7 5) 0) (ibin .shl .u32 (rfField a0 25 7) 5)) 12)
 bif (icmp .eql (rfEnc_0 16 0 x6 x9 x282) a0) then x6 else
 let x301 : Int := (rfSigned (ibin .or .u32 (ibin .shl .u32 (rfField a0 7 5) 0) (ibin .shl .u32 (rfField a0 25 7) 5)) 12)
 bif (icmp .eql (rfEnc_0 17 0 x6 x9 x301) a0) then x6 else
 let x320 : Int := (rfSigned (ibin .or .u32 (ibin .shl .u32 (rfField a0 7 5) 0) (ibin .shl .u32 (rfField a0 25 7) 5)) 12)
 bif (icmp .eql (rfEnc_0 18 0 x6 x9 x320) a0) then x6 else
 let x332 : Int := (ibin .shr .i32 (IntKind.wrap .i32 a0) 20)
 bif (icmp .eql (rfEnc_0 19 x3 x6 0 x332) a0) then x6 else
 let x344 : Int := (ibin .shr .i32 (IntKind.wrap .i32 a0) 20)
 bif (icmp .eql (rfEnc_0 20 x3 x6 0 x344) a0) then x6 else
 let x356 : Int := (ibin .shr .i32 (IntKind.wrap .i32 a0) 20)
 bif (icmp .eql (rfEnc_0 21 x3 x6 0 x356) a0) then x6 else
 let x368 : Int := (ibin .shr .i32 (IntKind.wrap .i32 a0) 20)
 bif (icmp .eql (rfEnc_0 22 x3 x6 0 x368) a0) then x6 else
 let x380 : Int := (ibin .shr .i32 (IntKind.wrap .i32 a0) 20)
 bif (icmp .eql (rfEnc_0 23 x3 x6 0 x380) a0) then x6 else
 let x392 : Int := (ibin .shr .i32 (IntKind.wrap .i32 a0) 20)
 bif (icmp .eql (rfEnc_0 24 x3 x6 0 x392) a0) then x6 else
 bif (icmp .eql (rfEnc_0 25 x3 x6 0 (IntKind.wrap .i32 x9)) a0) then x6 else
 bif (icmp .eql (rfEnc_0 26 x3 x6 0 (IntKind.wrap .i32 x9)) a0) then x6 else
 bif (icmp .eql (rfEnc_0 27 x3 x6 0 (IntKind.wrap .i32 x9)) a0) then x6 else
 bif (icmp .eql (rfEnc_0 28 x3 x6 x9 0) a0) then x6 else
 bif (icmp .eql (rfEnc_0 29 x3 x6 x9 0) a0) then x6 else
 bif (icmp .eql (rfEnc_0 30 x3 x6 x9 0) a0) then x6 else
 bif (icmp .eql (rfEnc_0 31 x3 x6 x9 0) a0) then x6 else
 bif (icmp .eql (rfEnc_0 32 x3 x6 x9 0) a0) then x6 else
 bif (icmp .eql (rfEnc_0 33 x3 x6 x9 0) a0) then x6 else
 bif (icmp .eql (rfEnc_0 34 x3 x6 x9 0) a0) then x6 else
 bif (icmp .eql (rfEnc_0 35 x3 x6 x9 0) a0) then x6 else
 bif (icmp .eql (rfEnc_0 36 x3 x6 x9 0) a0) then x6 else
 bif (icmp .eql (rfEnc_0 37 x3 x6 x9 0) a0) then x6 else
 bif (icmp .eql (rfEnc_0 38 x3 x6 x9 0) a0) then x6 else
 bif (icmp .eql (rfEnc_0 39 x3 x6 x9 0) a0) then x6 else
 bif (icmp .eql (rfEnc_0 40 x3 x6 x9 0) a0) then x6 else
 bif (icmp .eql (rfEnc_0 41 x3 x6 x9 0) a0) then x6 else
 bif (icmp .eql (rfEnc_0 42 x3 x6 x9 0) a0) then x6 else
 bif (icmp .eql (rfEnc_0 43 x3 x6 x9 0) a0) then x6 else
 bif (icmp .eql (rfEnc_0 44 x3 x6 x9 0) a0) then x6 else
 bif (icmp .eql (rfEnc_0 45 x3 x6 x9 0) a0) then x6 else
 bif (icmp .eql (rfEnc_0 46 0 0 0 0) a0) then 0 else
 bif (icmp .eql (rfEnc_0 47 0 0 0 0) a0) then 0 else 0
def rfDec_3 (a0 : Int) : Int :=
 let x3 : Int := (IntKind.wrap .i64 (ibin .and .u32 (ibin .shr .u32 a0 7) 31))
 let x6 : Int := (IntKind.wrap .i64 (ibin .and .u32 (ibin .shr .u32 a0 15) 31))
 let x9 : Int := (IntKind.wrap .i64 (ibin .and .u32 (ibin .shr .u32 a0 20) 31))
 let x16 : Int := (IntKind.wrap .i32 (ibin .and .u32 a0 4294963200))
 bif (icmp .eql (rfEnc_0 1 x3 0 0 x16) a0) then 0 else
 let x26 : Int := (IntKind.wrap .i32 (ibin .and .u32 a0 4294963200))
 bif (icmp .eql (rfEnc_0 2 x3 0 0 x26) a0) then 0 else
 let x47 : Int := (rfSigned (ibin .or .u32 (ibin .or .u32 (ibin .or .u32 (ibin .shl .u32 (rfField a0 12 8) 12) (ibin .shl .u32 (rfField a0 20 1) 11)) (ibin .shl .u32 (rfField a0 21 10) 1)) (ibin .shl .u32 (rfField a0 31 1) 20)) 21)
 bif (icmp .eql (rfEnc_0 3 x3 0 0 x47) a0) then 0 else
 let x59 : Int := (ibin .shr .i32 (IntKind.wrap .i32 a0) 20)
 bif (icmp .eql (rfEnc_0 4 x3 x6 0 x59) a0) then 0 else
 let x83 : Int := (rfSigned (ibin .or .u32 (ibin .or .u32 (ibin .or .u32 (ibin .shl .u32 (rfField a0 7 1) 11) (ibin .shl .u32 (rfField a0 8 4) 1)) (ibin .shl .u32 (rfField a0 25 6) 5)) (ibin .shl .u32 (rfField a0 31 1) 12)) 13)
 bif (icmp .eql (rfEnc_0 5 0 x6 x9 x83) a0) then x9 else
 let x107 : Int := (rfSigned (ibin .or .u32 (ibin .or .u32 (ibin .or .u32 (ibin .shl .u32 (rfField a0 7 1) 11) (ibin .shl .u32 (rfField a0 8 4) 1)) (ibin .shl .u32 (rfField a0 25 6) 5)) (ibin .shl .u32 (rfField a0 31 1) 12)) 13)
 bif (icmp .eql (rfEnc_0 6 0 x6 x9 x107) a0) then x9 else
 let x131 : Int := (rfSigned (ibin .or .u32 (ibin .or .u32 (ibin .or .u32 (ibin .shl .u32 (rfField a0 7 1) 11) (ibin .shl .u32 (rfField a0 8 4) 1)) (ibin .shl .u32 (rfField a0 25 6) 5)) (ibin .shl .u32 (rfField a0 31 1) 12)) 13)
 bif (icmp .eql (rfEnc_0 7 0 x6 x9 x131) a0) then x9 else
 let x155 : Int := (rfSigned (ibin .or .u32 (ibin .or .u32 (ibin .or .u32 (ibin .shl .u32 (rfField a0 7 1) 11) (ibin .shl .u32 (rfField a0 8 4) 1)) (ibin .shl .u32 (rfField a0 25 6) 5)) (ibin .shl .u32 (rfField a0 31 1) 12)) 13)
 bif (icmp .eql (rfEnc_0 8 0 x6 x9 x155) a0) then x9 else
 let x179 : Int := (rfSigned (ibin .or .u32 (ibin .or .u32 (ibin .or .u32 (ibin .shl .u32 (rfField a0 7 1) 11) (ibin .shl .u32 (rfField a0 8 4) 1)) (ibin .shl .u32 (rfField a0 25 6) 5)) (ibin .shl .u32 (rfField a0 31 1) 12)) 13)
 bif (icmp .eql (rfEnc_0 9 0 x6 x9 x179) a0) then x9 else
 let x203 : Int := (rfSigned (ibin .or .u32 (ibin .or .u32 (ibin .or .u32 (ibin .shl .u32 (rfField a0 7 1) 11) (ibin .shl .u32 (rfField a0 8 4) 1)) (ibin .shl .u32 (rfField a0 25 6) 5)) (ibin .shl .u32 (rfField a0 31 1) 12)) 13)
 bif (icmp .eql (rfEnc_0 10 0 x6 x9 x203) a0) then x9 else
 let x215 : Int := (ibin .shr .i32 (IntKind.wrap .i32 a0) 20)
 bif (icmp .eql (rfEnc_0 11 x3 x6 0 x215) a0) then 0 else
 let x227 : Int := (ibin .shr .i32 (IntKind.wrap .i32 a0) 20)
 bif (icmp .eql (rfEnc_0 12 x3 x6 0 x227) a0) then 0 else
 let x239 : Int := (ibin .shr .i32 (IntKind.wrap .i32 a0) 20)
 bif (icmp .eql (rfEnc_0 13 x3 x6 0 x239) a0) then 0 else
 let x251 : Int := (ibin .shr .i32 (IntKind.wrap .i32 a0) 20)
 bif (icmp .eql (rfEnc_0 14 x3 x6 0 x251) a0) then 0 else
 let x263 : Int := (ibin .shr .i32 (IntKind.wrap .i32 a0) 20)
 bif (icmp .eql (rfEnc_0 15 x3 x6 0 x263) a0) then 0 else
 let x282 : Int := (rfSigned (ibin .or .u32 (ibin .shl .u32 (rfField a0 7 5) 0) (ibin .shl .u32 (rfField a0 25 7) 5)) 12)
 bif (icmp .eql (rfEnc_0 16 0 x6 x9 x282) a0) then x9 else
 let x301 : Int := (rfSigned (ibin .or .u32 (ibin .shl .u32 (rfField a0 7 5) 0) (ibin .shl .u32 (rfField a0 25 7) 5)) 12)
 bif (icmp .eql (rfEnc_0 17 0 x6 x9 x301) a0) then x9 else
 let x320 : Int := (rfSigned (ibin .or .u32 (ibin .shl .u32 (rfField a0 7 5) 0) (ibin .shl .u32 (rfField a0 25 7) 5)) 12)
 bif (icmp .eql (rfEnc_0 18 0 x6 x9 x320) a0) then x9 else
 let x332 : Int := (ibin .shr .i32 (IntKind.wrap .i32 a0) 20)
 bif (icmp .eql (rfEnc_0 19 x3 x6 0 x332) a0) then 0 else
 let x344 : Int := (ibin .shr .i32 (IntKind.wrap .i32 a0) 20)
 bif (icmp .eql (rfEnc_0 20 x3 x6 0 x344) a0) then 0 else
 let x356 : Int := (ibin .shr .i32 (IntKind.wrap .i32 a0) 20)
 bif (icmp .eql (rfEnc_0 21 x3 x6 0 x356) a0) then 0 else
 let x368 : Int := (ibin .shr .i32 (IntKind.wrap .i32 a0) 20)
 bif (icmp .eql (rfEnc_0 22 x3 x6 0 x368) a0) then 0 else
 let x380 : Int := (ibin .shr .i32 (IntKind.wrap .i32 a0) 20)
 bif (icmp .eql (rfEnc_0 23 x3 x6 0 x380) a0) then 0 else
 let x392 : Int := (ibin .shr .i32 (IntKind.wrap .i32 a0) 20)
 bif (icmp .eql (rfEnc_0 24 x3 x6 0 x392) a0) then 0 else
 bif (icmp .eql (rfEnc_0 25 x3 x6 0 (IntKind.wrap .i32 x9)) a0) then 0 else
 bif (icmp .eql (rfEnc_0 26 x3 x6 0 (IntKind.wrap .i32 x9)) a0) then 0 else
 bif (icmp .eql (rfEnc_0 27 x3 x6 0 (IntKind.wrap .i32 x9)) a0) then 0 else
 bif (icmp .eql (rfEnc_0 28 x3 x6 x9 0) a0) then x9 else
 bif (icmp .eql (rfEnc_0 29 x3 x6 x9 0) a0) then x9 else
 bif (icmp .eql (rfEnc_0 30 x3 x6 x9 0) a0) then x9 else
 bif (icmp .eql (rfEnc_0 31 x3 x6 x9 0) a0) then x9 else
 bif (icmp .eql (rfEnc_0 32 x3 x6 x9 0) a0) then x9 else
 bif (icmp .eql (rfEnc_0 33 x3 x6 x9 0) a0) then x9 else
 bif (icmp .eql (rfEnc_0 34 x3 x6 x9 0) a0) then x9 else
 bif (icmp .eql (rfEnc_0 35 x3 x6 x9 0) a0) then x9 else
 bif (icmp .eql (rfEnc_0 36 x3 x6 x9 0) a0) then x9 else
 bif (icmp .eql (rfEnc_0 37 x3 x6 x9 0) a0) then x9 else
 bif (icmp .eql (rfEnc_0 38 x3 x6 x9 0) a0) then x9 else
 bif (icmp .eql (rfEnc_0 39 x3 x6 x9 0) a0) then x9 else
 bif (icmp .eql (rfEnc_0 40 x3 x6 x9 0) a0) then x9 else
 bif (icmp .eql (rfEnc_0 41 x3 x6 x9 0) a0) then x9 else
 bif (icmp .eql (rfEnc_0 42 x3 x6 x9 0) a0) then x9 else
 bif (icmp .eql (rfEnc_0 43 x3 x6 x9 0) a0) then x9 else
 bif (icmp .eql (rfEnc_0 44 x3 x6 x9 0) a0) then x9 else
 bif (icmp .eql (rfEnc_0 45 x3 x6 x9 0) a0) then x9 else
 bif (icmp .eql (rfEnc_0 46 0 0 0 0) a0) then 0 else
 bif (icmp .eql (rfEnc_0 47 0 0 0 0) a0) then 0 else 0
def rfDec_4 (a0 : Int) : Int :=
 let x3 : Int := (IntKind.wrap .i64 (ibin .and .u32 (ibin .shr .u32 a0 7) 31))
 let x6 : Int := (IntKind.wrap .i64 (ibin .and .u32 (ibin .shr .u32 a0 15) 31))
 let x9 : Int := (IntKind.wrap .i64 (ibin .and .u32 (ibin .shr .u32 a0 20) 31))
 let x16 : Int := (IntKind.wrap .i32 (ibin .and .u32 a0 4294963200))
 bif (icmp .eql (rfEnc_0 1 x3 0 0 x16) a0) then x16 else
 let x26 : Int := (IntKind.wrap .i32 (ibin .and .u32 a0 4294963200))
 bif (icmp .eql (rfEnc_0 2 x3 0 0 x26) a0) then x26 else
 let x47 : Int := (rfSigned (ibin .or .u32 (ibin .or .u32 (ibin .or .u32 (ibin .shl .u32 (rfField a0 12 8) 12) (ibin .shl .u32 (rfField a0 20 1) 11)) (ibin .shl .u32 (rfField a0 21 10) 1)) (ibin .shl .u32 (rfField a0 31 1) 20)) 21)
 bif (icmp .eql (rfEnc_0 3 x3 0 0 x47) a0) then x47 else
 let x59 : Int := (ibin .shr .i32 (IntKind.wrap .i32 a0) 20)
 bif (icmp .eql (rfEnc_0 4 x3 x6 0 x59) a0) then x59 else
 let x83 : Int := (rfSigned (ibin .or .u32 (ibin .or .u32 (ibin .or .u32 (ibin .shl .u32 (rfField a0 7 1) 11) (ibin .shl .u32 (rfField a0 8 4) 1)) (ibin .shl .u32 (rfField a0 25 6) 5)) (ibin .shl .u32 (rfField a0 31 1) 12)) 13)
 bif (icmp .eql (rfEnc_0 5 0 x6 x9 x83) a0) then x83 else
 let x107 : Int := (rfSigned (ibin .or .u32 (ibin .or .u32 (ibin .or .u32 (ibin .shl .u32 (rfField a0 7 1) 11) (ibin .shl .u32 (rfField a0 8 4) 1)) (ibin .shl .u32 (rfField a0 25 6) 5)) (ibin .shl .u32 (rfField a0 31 1) 12)) 13)
 bif (icmp .eql (rfEnc_0 6 0 x6 x9 x107) a0) then x107 else
 let x131 : Int := (rfSigned (ibin .or .u32 (ibin .or .u32 (ibin .or .u32 (ibin .shl .u32 (rfField a0 7 1) 11) (ibin .shl .u32 (rfField a0 8 4) 1)) (ibin .shl .u32 (rfField a0 25 6) 5)) (ibin .shl .u32 (rfField a0 31 1) 12)) 13)
 bif (icmp .eql (rfEnc_0 7 0 x6 x9 x131) a0) then x131 else
 let x155 : Int := (rfSigned (ibin .or .u32 (ibin .or .u32 (ibin .or .u32 (ibin .shl .u32 (rfField a0 7 1) 11) (ibin .shl .u32 (rfField a0 8 4) 1)) (ibin .shl .u32 (rfField a0 25 6) 5)) (ibin .shl .u32 (rfField a0 31 1) 12)) 13)
 bif (icmp .eql (rfEnc_0 8 0 x6 x9 x155) a0) then x155 else
 let x179 : Int := (rfSigned (ibin .or .u32 (ibin .or .u32 (ibin .or .u32 (ibin .shl .u32 (rfField a0 7 1) 11) (ibin .shl .u32 (rfField a0 8 4) 1)) (ibin .shl .u32 (rfField a0 25 6) 5)) (ibin .shl .u32 (rfField a0 31 1) 12)) 13)
 bif (icmp .eql (rfEnc_0 9 0 x6 x9 x179) a0) then x179 else
 let x203 : Int := (rfSigned (ibin .or .u32 (ibin .or .u32 (ibin .or .u32 (ibin .shl .u32 (rfField a0 7 1) 11) (ibin .shl .u32 (rfField a0 8 4) 1)) (ibin .shl .u32 (rfField a0 25 6) 5)) (ibin .shl .u32 (rfField a0 31 1) 12)) 13)
 bif (icmp .eql (rfEnc_0 10 0 x6 x9 x203) a0) then x203 else
 let x215 : Int := (ibin .shr .i32 (IntKind.wrap .i32 a0) 20)
 bif (icmp .eql (rfEnc_0 11 x3 x6 0 x215) a0) then x215 else
 let x227 : Int := (ibin .shr .i32 (IntKind.wrap .i32 a0) 20)
 bif (icmp .eql (rfEnc_0 12 x3 x6 0 x227) a0) then x227 else
 let x239 : Int := (ibin .shr .i32 (IntKind.wrap .i32 a0) 20)
 bif (icmp .eql (rfEnc_0 13 x3 x6 0 x239) a0) then x239 else
 let x251 : Int := (ibin .shr .i32 (IntKind.wrap .i32 a0) 20)
 bif (icmp .eql (rfEnc_0 14 x3 x6 0 x251) a0) then x251 else
 let x263 : Int := (ibin .shr .i32 (IntKind.wrap .i32 a0) 20)
 bif (icmp .eql (rfEnc_0 15 x3 x6 0 x263) a0) then x263 else
 let x282 : Int := (rfSigned (ibin .or .u32 (ibin .shl .u32 (rfField a0 7 5) 0) (ibin .shl .u32 (rfField a0 25 7) 5)) 12)
 bif (icmp .eql (rfEnc_0 16 0 x6 x9 x282) a0) then x282 else
 let x301 : Int := (rfSigned (ibin .or .u32 (ibin .shl .u32 (rfField a0 7 5) 0) (ibin .shl .u32 (rfField a0 25 7) 5)) 12)
 bif (icmp .eql (rfEnc_0 17 0 x6 x9 x301) a0) then x301 else
 let x320 : Int := (rfSigned (ibin .or .u32 (ibin .shl .u32 (rfField a0 7 5) 0) (ibin .shl .u32 (rfField a0 25 7) 5)) 12)
 bif (icmp .eql (rfEnc_0 18 0 x6 x9 x320) a0) then x320 else
 let x332 : Int := (ibin .shr .i32 (IntKind.wrap .i32 a0) 20)
 bif (icmp .eql (rfEnc_0 19 x3 x6 0 x332) a0) then x332 else
 let x344 : Int := (ibin .shr .i32 (IntKind.wrap .i32 a0) 20)
 bif (icmp .eql (rfEnc_0 20 x3 x6 0 x344) a0) then x344 else
 let x356 : Int := (ibin .shr .i32 (IntKind.wrap .i32 a0) 20)
 bif (icmp .eql (rfEnc_0 21 x3 x6 0 x356) a0) then x356 else
 let x368 : Int := (ibin .shr .i32 (IntKind.wrap .i32 a0) 20)
 bif (icmp .eql (rfEnc_0 22 x3 x6 0 x368) a0) then x368 else
 let x380 : Int := (ibin .shr .i32 (IntKind.wrap .i32 a0) 20)
 bif (icmp .eql (rfEnc_0 23 x3 x6 0 x380) a0) then x380 else
 let x392 : Int := (ibin .shr .i32 (IntKind.wrap .i32 a0) 20)
 bif (icmp .eql (rfEnc_0 24 x3 x6 0 x392) a0) then x392 else
 bif (icmp .eql (rfEnc_0 25 x3 x6 0 (IntKind.wrap .i32 x9)) a0) then IntKind.wrap .i32 x9 else
 bif (icmp .eql (rfEnc_0 26 x3 x6 0 (IntKind.wrap .i32 x9)) a0) then IntKind.wrap .i32 x9 else
 bif (icmp .eql (rfEnc_0 27 x3 x6 0 (IntKind.wrap .i32 x9)) a0) then IntKind.wrap .i32 x9 else
 bif (icmp .eql (rfEnc_0 28 x3 x6 x9 0) a0) then 0 else
 bif (icmp .eql (rfEnc_0 29 x3 x6 x9 0) a0) then 0 else
 bif (icmp .eql (rfEnc_0 30 x3 x6 x9 0) a0) then 0 else
 bif (icmp .eql (rfEnc_0 31 x3 x6 x9 0) a0) then 0 else
 bif (icmp .eql (rfEnc_0 32 x3 x6 x9 0) a0) then 0 else
 bif (icmp .eql (rfEnc_0 33 x3 x6 x9 0) a0) then 0 else
 bif (icmp .eql (rfEnc_0 34 x3 x6 x9 0) a0) then 0 else
 bif (icmp .eql (rfEnc_0 35 x3 x6 x9 0) a0) then 0 else
 bif (icmp .eql (rfEnc_0 36 x3 x6 x9 0) a0) then 0 else
 bif (icmp .eql (rfEnc_0 37 x3 x6 x9 0) a0) then 0 else
 bif (icmp .eql (rfEnc_0 38 x3 x6 x9 0) a0) then 0 else
 bif (icmp .eql (rfEnc_0 39 x3 x6 x9 0) a0) then 0 else
 bif (icmp .eql (rfEnc_0 40 x3 x6 x9 0) a0) then 0 else
 bif (icmp .eql (rfEnc_0 41 x3 x6 x9 0) a0) then 0 else
 bif (icmp .eql (rfEnc_0 42 x3 x6 x9 0) a0) then 0 else
 bif (icmp .eql (rfEnc_0 43 x3 x6 x9 0) a0) then 0 else
 bif (icmp .eql (rfEnc_0 44 x3 x6 x9 0) a0) then 0 else
 bif (icmp .eql (rfEnc_0 45 x3 x6 x9 0) a0) then 0 else
 bif (icmp .eql (rfEnc_0 46 0 0 0 0) a0) then 0 else
 bif (icmp .eql (rfEnc_0 47 0 0 0 0) a0) then 0 else 0
def rfDec_5 (a0 : Int) : Bool :=
 let x3 : Int := (IntKind.wrap .i64 (ibin .and .u32 (ibin .shr .u32 a0 7) 31))
 let x6 : Int := (IntKind.wrap .i64 (ibin .and .u32 (ibin .shr .u32 a0 15) 31))
 let x9 : Int := (IntKind.wrap .i64 (ibin .and .u32 (ibin .shr .u32 a0 20) 31))
 let x16 : Int := (IntKind.wrap .i32 (ibin .and .u32 a0 4294963200))
 bif (icmp .eql (rfEnc_0 1 x3 0 0 x16) a0) then true else
 let x26 : Int := (IntKind.wrap .i32 (ibin .and .u32 a0 4294963200))
 bif (icmp .eql (rfEnc_0 2 x3 0 0 x26) a0) then true else
 let x47 : Int := (rfSigned (ibin .or .u32 (ibin .or .u32 (ibin .or .u32 (ibin .shl .u32 (rfField a0 12 8) 12) (ibin .shl .u32 (rfField a0 20 1) 11)) (ibin .shl .u32 (rfField a0 21 10) 1)) (ibin .shl .u32 (rfField a0 31 1) 20)) 21)
 bif (icmp .eql (rfEnc_0 3 x3 0 0 x47) a0) then true else
 let x59 : Int := (ibin .shr .i32 (IntKind.wrap .i32 a0) 20)
 bif (icmp .eql (rfEnc_0 4 x3 x6 0 x59) a0) then true else
 let x83 : Int := (rfSigned (ibin .or .u32 (ibin .or .u32 (ibin .or .u32 (ibin .shl .u32 (rfField a0 7 1) 11) (ibin .shl .u32 (rfField a0 8 4) 1)) (ibin .shl .u32 (rfField a0 25 6) 5)) (ibin .shl .u32 (rfField a0 31 1) 12)) 13)
 bif (icmp .eql (rfEnc_0 5 0 x6 x9 x83) a0) then true else
 let x107 : Int := (rfSigned (ibin .or .u32 (ibin .or .u32 (ibin .or .u32 (ibin .shl .u32 (rfField a0 7 1) 11) (ibin .shl .u32 (rfField a0 8 4) 1)) (ibin .shl .u32 (rfField a0 25 6) 5)) (ibin .shl .u32 (rfField a0 31 1) 12)) 13)
 bif (icmp .eql (rfEnc_0 6 0 x6 x9 x107) a0) then true else
 let x131 : Int := (rfSigned (ibin .or .u32 (ibin .or .u32 (ibin .or .u32 (ibin .shl .u32 (rfField a0 7 1) 11) (ibin .shl .u32 (rfField a0 8 4) 1)) (ibin .shl .u32 (rfField a0 25 6) 5)) (ibin .shl .u32 (rfField a0 31 1) 12)) 13)
 bif (icmp .eql (rfEnc_0 7 0 x6 x9 x131) a0) then true else
 let x155 : Int := (rfSigned (ibin .or .u32 (ibin .or .u32 (ibin .or .u32 (ibin .shl .u32 (rfField a0 7 1) 11) (ibin .shl .u32 (rfField a0 8 4) 1)) (ibin .shl .u32 (rfField a0 25 6) 5)) (ibin .shl .u32 (rfField a0 31 1) 12)) 13)
 bif (icmp .eql (rfEnc_0 8 0 x6 x9 x155) a0) then true else
 let x179 : Int := (rfSigned (ibin .or .u32 (ibin .or .u32 (ibin .or .u32 (ibin .shl .u32 (rfField a0 7 1) 11) (ibin .shl .u32 (rfField a0 8 4) 1)) (ibin .shl .u32 (rfField a0 25 6) 5)) (ibin .shl .u32 (rfField a0 31 1) 12)) 13)
 bif (icmp .eql (rfEnc_0 9 0 x6 x9 x179) a0) then true else
 let x203 : Int := (rfSigned (ibin .or .u32 (ibin .or .u32 (ibin .or .u32 (ibin .shl .u32 (rfField a0 7 1) 11) (ibin .shl .u32 (rfField a0 8 4) 1)) (ibin .shl .u32 (rfField a0 25 6) 5)) (ibin .shl .u32 (rfField a0 31 1) 12)) 13)
 bif (icmp .eql (rfEnc_0 10 0 x6 x9 x203) a0) then true else
 let x215 : Int := (ibin .shr .i32 (IntKind.wrap .i32 a0) 20)
 bif (icmp .eql (rfEnc_0 11 x3 x6 0 x215) a0) then true else
 let x227 : Int := (ibin .shr .i32 (IntKind.wrap .i32 a0) 20)
 bif (icmp .eql (rfEnc_0 12 x3 x6 0 x227) a0) then true else
 let x239 : Int := (ibin .shr .i32 (IntKind.wrap .i32 a0) 20)
 bif (icmp .eql (rfEnc_0 13 x3 x6 0 x239) a0) then true else
 let x251 : Int := (ibin .shr .i32 (IntKind.wrap .i32 a0) 20)
 bif (icmp .eql (rfEnc_0 14 x3 x6 0 x251) a0) then true else
 let x263 : Int := (ibin .shr .i32 (IntKind.wrap .i32 a0) 20)
 bif (icmp .eql (rfEnc_0 15 x3 x6 0 x263) a0) then true else
 let x282 : Int := (rfSigned (ibin .or .u32 (ibin .shl .u32 (rfField a0 7 5) 0) (ibin .shl .u32 (rfField a0 25 7) 5)) 12)
 bif (icmp .eql (rfEnc_0 16 0 x6 x9 x282) a0) then true else
 let x301 : Int := (rfSigned (ibin .or .u32 (ibin .shl .u32 (rfField a0 7 5) 0) (ibin .shl .u32 (rfField a0 25 7) 5)) 12)
 bif (icmp .eql (rfEnc_0 17 0 x6 x9 x301) a0) then true else
 let x320 : Int := (rfSigned (ibin .or .u32 (ibin .shl .u32 (rfField a0 7 5) 0) (ibin .shl .u32 (rfField a0 25 7) 5)) 12)
 bif (icmp .eql (rfEnc_0 18 0 x6 x9 x320) a0) then true else
 let x332 : Int := (ibin .shr .i32 (IntKind.wrap .i32 a0) 20)
 bif (icmp .eql (rfEnc_0 19 x3 x6 0 x332) a0) then true else
 let x344 : Int := (ibin .shr .i32 (IntKind.wrap .i32 a0) 20)
 bif (icmp .eql (rfEnc_0 20 x3 x6 0 x344) a0) then true else
 let x356 : Int := (ibin .shr .i32 (IntKind.wrap .i32 a0) 20)
 bif (icmp .eql (rfEnc_0 21 x3 x6 0 x356) a0) then true else
 let x368 : Int := (ibin .shr .i32 (IntKind.wrap .i32 a0) 20)
 bif (icmp .eql (rfEnc_0 22 x3 x6 0 x368) a0) then true else
 let x380 : Int := (ibin .shr .i32 (IntKind.wrap .i32 a0) 20)
 bif (icmp .eql (rfEnc_0 23 x3 x6 0 x380) a0) then true else
 let x392 : Int := (ibin .shr .i32 (IntKind.wrap .i32 a0) 20)
 bif (icmp .eql (rfEnc_0 24 x3 x6 0 x392) a0) then true else
 bif (icmp .eql (rfEnc_0 25 x3 x6 0 (IntKind.wrap .i32 x9)) a0) then true else
 bif (icmp .eql (rfEnc_0 26 x3 x6 0 (IntKind.wrap .i32 x9)) a0) then true else
 bif (icmp .eql (rfEnc_0 27 x3 x6 0 (IntKind.wrap .i32 x9)) a0) then true else
 bif (icmp .eql (rfEnc_0 28 x3 x6 x9 0) a0) then true else
 bif (icmp .eql (rfEnc_0 29 x3 x6 x9 0) a0) then true else
 bif (icmp .eql (rfEnc_0 30 x3 x6 x9 0) a0) then true else
 bif (icmp .eql (rfEnc_0 31 x3 x6 x9 0) a0) then true else
 bif (icmp .eql (rfEnc_0 32 x3 x6 x9 0) a0) then true else
 bif (icmp .eql (rfEnc_0 33 x3 x6 x9 0) a0) then true else
 bif (icmp .eql (rfEnc_0 34 x3 x6 x9 0) a0) then true else
 bif (icmp .eql (rfEnc_0 35 x3 x6 x9 0) a0) then true else
 bif (icmp .eql (rfEnc_0 36 x3 x6 x9 0) a0) then true else
 bif (icmp .eql (rfEnc_0 37 x3 x6 x9 0) a0) then true else
 bif (icmp .eql (rfEnc_0 38 x3 x6 x9 0) a0) then true else
 bif (icmp .eql (rfEnc_0 39 x3 x6 x9 0) a0) then true else
 bif (icmp .eql (rfEnc_0 40 x3 x6 x9 0) a0) then true else
 bif (icmp .eql (rfEnc_0 41 x3 x6 x9 0) a0) then true else
 bif (icmp .eql (rfEnc_0 42 x3 x6 x9 0) a0) then true else
 bif (icmp .eql (rfEnc_0 43 x3 x6 x9 0) a0) then true else
 bif (icmp .eql (rfEnc_0 44 x3 x6 x9 0) a0) then true else
 bif (icmp .eql (rfEnc_0 45 x3 x6 x9 0) a0) then true else
 bif (icmp .eql (rfEnc_0 46 0 0 0 0) a0) then true else
 bif (icmp .eql (rfEnc_0 47 0 0 0 0) a0) then true else false
def btBytes_0 (a0 : Int) : Int :=
 (IntKind.wrap .u8 a0)
def btBytes_1 (a0 : Int) : Int :=
 (IntKind.wrap .u8 (ibin .shr .u32 a0 8))
def btBytes_2 (a0 : Int) : Int :=
 (IntKind.wrap .u8 (ibin .shr .u32 a0 16))
def btBytes_3 (a0 : Int) : Int :=
 (IntKind.wrap .u8 (ibin .shr .u32 a0 24))
def btMulS_0 (a0 a1 : Int) : Int :=
 let x6 : Int := (ibin .mul .i64 (IntKind.wrap .i64 (IntKind.wrap .i32 a0)) (IntKind.wrap .i64 (IntKind.wrap .i32 a1)))
 (IntKind.wrap .u32 x6)
def btMulS_1 (a0 a1 : Int) : Int :=
 let x6 : Int := (ibin .mul .i64 (IntKind.wrap .i64 (IntKind.wrap .i32 a0)) (IntKind.wrap .i64 (IntKind.wrap .i32 a1)))
 (IntKind.wrap .u32 (ibin .shr .i64 x6 32))
def btMulU_0 (a0 a1 : Int) : Int :=
 let x4 : Int := (ibin .mul .u64 (IntKind.wrap .u64 a0) (IntKind.wrap .u64 a1))
 (IntKind.wrap .u32 x4)
def btMulU_1 (a0 a1 : Int) : Int :=
 let x4 : Int := (ibin .mul .u64 (IntKind.wrap .u64 a0) (IntKind.wrap .u64 a1))
 (IntKind.wrap .u32 (ibin .shr .u64 x4 32))
def rfMulS_0 (a0 a1 : Int) : Int :=
 let x6 : Int := (ibin .mul .i64 (IntKind.wrap .i64 (IntKind.wrap .i32 a0)) (IntKind.wrap .i64 (IntKind.wrap .i32 a1)))
 (IntKind.wrap .u32 x6)
def rfMulS_1 (a0 a1 : Int) : Int :=
 let x6 : Int := (ibin .mul .i64 (IntKind.wrap .i64 (IntKind.wrap .i32 a0)) (IntKind.wrap .i64 (IntKind.wrap .i32 a1)))
 (IntKind.wrap .u32 (ibin .shr .u64 (IntKind.wrap .u64 x6) 32))
def rfMulU_0 (a0 a1 : Int) : Int :=
 let x4 : Int := (ibin .mul .u64 (IntKind.wrap .u64 a0) (IntKind.wrap .u64 a1))
 (IntKind.wrap .u32 x4)
def rfMulU_1 (a0 a1 : Int) : Int :=
 let x4 : Int := (ibin .mul .u64 (IntKind.wrap .u64 a0) (IntKind.wrap .u64 a1))
 (IntKind.wrap .u32 (ibin .shr .u64 x4 32))
def rhOne (a0 : Bool) : Int :=
 bif a0 then 1 else 0
def rhTaken (a0 a1 a2 : Int) : Bool :=
 bif icmp .eql a0 5 then icmp .eql a1 a2 else
 bif icmp .eql a0 6 then icmp .neq a1 a2 else
 bif icmp .eql a0 7 then (let x8 : Bool := (icmp .lss (IntKind.wrap .i32 a1) (IntKind.wrap .i32 a2))
 x8) else
 bif icmp .eql a0 8 then icmp .geq (IntKind.wrap .i32 a1) (IntKind.wrap .i32 a2) else
 bif icmp .eql a0 9 then icmp .lss a1 a2 else (icmp .geq a1 a2)
def rhMuldiv (a0 a1 a2 : Int) : Int :=
 bif icmp .eql a1 2147483648 then (bif icmp .eql a0 38 then rfMulU_0 a1 a2 else
 bif icmp .eql a0 39 then rfMulS_1 a1 a2 else
 bif icmp .eql a0 40 then (let x13 : Int := (IntKind.wrap .i64 (IntKind.wrap .i32 a1))
 let x15 : Int := (ibin .mul .i64 x13 (IntKind.wrap .i64 a2))
 let x17 : Int := (ibin .shr .u64 (IntKind.wrap .u64 x15) 32)
 (IntKind.wrap .u32 x17)) else
 bif icmp .eql a0 41 then rfMulU_1 a1 a2 else
 bif icmp .eql a0 42 then (bif icmp .eql a2 0 then 4294967295 else
 bif icmp .eql a2 4294967295 then a1 else
 let x17 : Int := (ibin .quo .i32 (IntKind.wrap .i32 a1) (IntKind.wrap .i32 a2))
 (IntKind.wrap .u32 x17)) else
 bif icmp .eql a0 43 then (bif icmp .eql a2 0 then 4294967295 else (ibin .quo .u32 a1 a2)) else
 bif icmp .eql a0 44 then (bif icmp .eql a2 0 then a1 else
 bif icmp .eql a2 4294967295 then 0 else
 let x19 : Int := (ibin .rem .i32 (IntKind.wrap .i32 a1) (IntKind.wrap .i32 a2))
 (IntKind.wrap .u32 x19)) else
 bif icmp .eql a2 0 then a1 else (ibin .rem .u32 a1 a2)) else
 bif icmp .eql a0 38 then rfMulU_0 a1 a2 else
 bif icmp .eql a0 39 then rfMulS_1 a1 a2 else
 bif icmp .eql a0 40 then (let x12 : Int := (IntKind.wrap .i64 (IntKind.wrap .i32 a1))
 let x14 : Int := (ibin .mul .i64 x12 (IntKind.wrap .i64 a2))
 let x16 : Int := (ibin .shr .u64 (IntKind.wrap .u64 x14) 32)
 (IntKind.wrap .u32 x16)) else
 bif icmp .eql a0 41 then rfMulU_1 a1 a2 else
 bif icmp .eql a0 42 then (bif icmp .eql a2 0 then 4294967295 else
 let x16 : Int := (ibin .quo .i32 (IntKind.wrap .i32 a1) (IntKind.wrap .i32 a2))
 (IntKind.wrap .u32 x16)) else
 bif icmp .eql a0 43 then (bif icmp .eql a2 0 then 4294967295 else (ibin .quo .u32 a1 a2)) else
 bif icmp .eql a0 44 then (bif icmp .eql a2 0 then a1 else
 let x18 : Int := (ibin .rem .i32 (IntKind.wrap .i32 a1) (IntKind.wrap .i32 a2))
 (IntKind.wrap .u32 x18)) else
 bif icmp .eql a2 0 then a1 else (ibin .rem .u32 a1 a2)
def rhAlu (a0 a1 a2 : Int) : Int :=
 bif icmp .eql a0 28 then ibin .add .u32 a1 a2 else
 bif icmp .eql a0 29 then ibin .sub .u32 a1 a2 else
 bif icmp .eql a0 30 then (let x7 : Int := (ibin .shl .u32 a1 (ibin .and .u32 a2 31))
 x7) else
 bif icmp .eql a0 31 then (let x9 : Bool := (icmp .lss (IntKind.wrap .i32 a1) (IntKind.wrap .i32 a2))
 (rhOne x9)) else
 bif icmp .eql a0 32 then rhOne (icmp .lss a1 a2) else
 bif icmp .eql a0 33 then ibin .xor .u32 a1 a2 else
 bif icmp .eql a0 34 then (let x11 : Int := (ibin .shr .u32 a1 (ibin .and .u32 a2 31))
 x11) else
 bif icmp .eql a0 35 then (let x13 : Int := (ibin .shr .i32 (IntKind.wrap .i32 a1) (ibin .and .u32 a2 31))
 (IntKind.wrap .u32 x13)) else
 bif icmp .eql a0 36 then ibin .or .u32 a1 a2 else
 bif icmp .eql a0 37 then ibin .and .u32 a1 a2 else (rhMuldiv a0 a1 a2)
def asReg (a0 : Int) : Bool :=
 bif icmp .geq a0 1 then icmp .lss a0 32 else false
def asHalves_0 (a0 : Int) : Int :=
 (IntKind.wrap .i32 (ibin .sub .u32 a0 (btSign12 a0)))
def asHalves_1 (a0 : Int) : Int :=
 (IntKind.wrap .i32 (btSign12 a0))
def kaKnown : Bool :=
 true
def ksKnown : Bool :=
 true
def stReg (a0 a1 a2 a3 a4 a5 a6 a7 a8 : Int) (a9 : Bool) (a10 : Bool) (a11 : Bool) (a12 : Bool) (a13 : Bool) (a14 : Bool) (a15 : Bool) (a16 a17 : Int) : Int :=
 let x20 : Int := (ibin .rem .i64 (ibin .add .i64 (ibin .rem .i64 a17 8) 8) 8)
 bif decide ((ibin .rem .i64 x20 4) = 0) then (let x23 : Int := (ibin .mul .i64 (ibin .quo .i64 x20 4) 8)
 (btField a0 x23 8)) else
 bif decide ((ibin .rem .i64 x20 4) = 1) then (let x23 : Int := (ibin .mul .i64 (ibin .quo .i64 x20 4) 8)
 (btField a1 x23 8)) else
 bif decide ((ibin .rem .i64 x20 4) = 2) then (let x23 : Int := (ibin .mul .i64 (ibin .quo .i64 x20 4) 8)
 (btField a2 x23 8)) else
 bif decide ((ibin .rem .i64 x20 4) = 3) then (let x23 : Int := (ibin .mul .i64 (ibin .quo .i64 x20 4) 8)
 (btField a3 x23 8)) else 0
def stSet_0 (a0 a1 a2 a3 a4 a5 a6 a7 a8 : Int) (a9 : Bool) (a10 : Bool) (a11 : Bool) (a12 : Bool) (a13 : Bool) (a14 : Bool) (a15 : Bool) (a16 a17 a18 : Int) : Int :=
 let x21 : Int := (ibin .rem .i64 (ibin .add .i64 (ibin .rem .i64 a17 8) 8) 8)
 let x23 : Int := (ibin .mul .i64 (ibin .quo .i64 x21 4) 8)
 bif decide ((ibin .rem .i64 x21 4) = 0) then (let x27 : Int := (ibin .andNot .u32 a0 (ibin .shl .u32 255 x23))
 let x29 : Int := (ibin .shl .u32 (ibin .and .u32 a18 255) x23)
 bif decide ((ibin .rem .i64 x21 4) = 0) then ibin .or .u32 x27 x29 else
 bif decide ((ibin .rem .i64 x21 4) = 1) then a0 else
 bif decide ((ibin .rem .i64 x21 4) = 2) then a0 else
 bif decide ((ibin .rem .i64 x21 4) = 3) then a0 else 0) else
 bif decide ((ibin .rem .i64 x21 4) = 1) then (let x27 : Int := (ibin .andNot .u32 a1 (ibin .shl .u32 255 x23))
 let x29 : Int := (ibin .shl .u32 (ibin .and .u32 a18 255) x23)
 bif decide ((ibin .rem .i64 x21 4) = 0) then ibin .or .u32 x27 x29 else
 bif decide ((ibin .rem .i64 x21 4) = 1) then a0 else
 bif decide ((ibin .rem .i64 x21 4) = 2) then a0 else
 bif decide ((ibin .rem .i64 x21 4) = 3) then a0 else 0) else
 bif decide ((ibin .rem .i64 x21 4) = 2) then (let x27 : Int := (ibin .andNot .u32 a2 (ibin .shl .u32 255 x23))
 let x29 : Int := (ibin .shl .u32 (ibin .and .u32 a18 255) x23)
 bif decide ((ibin .rem .i64 x21 4) = 0) then ibin .or .u32 x27 x29 else
 bif decide ((ibin .rem .i64 x21 4) = 1) then a0 else
 bif decide ((ibin .rem .i64 x21 4) = 2) then a0 else
 bif decide ((ibin .rem .i64 x21 4) = 3) then a0 else 0) else
 bif decide ((ibin .rem .i64 x21 4) = 3) then (let x27 : Int := (ibin .andNot .u32 a3 (ibin .shl .u32 255 x23))
 let x29 : Int := (ibin .shl .u32 (ibin .and .u32 a18 255) x23)
 bif decide ((ibin .rem .i64 x21 4) = 0) then ibin .or .u32 x27 x29 else
 bif decide ((ibin .rem .i64 x21 4) = 1) then a0 else
 bif decide ((ibin .rem .i64 x21 4) = 2) then a0 else
 bif decide ((ibin .rem .i64 x21 4) = 3) then a0 else 0) else 0
def stSet_1 (a0 a1 a2 a3 a4 a5 a6 a7 a8 : Int) (a9 : Bool) (a10 : Bool) (a11 : Bool) (a12 : Bool) (a13 : Bool) (a14 : Bool) (a15 : Bool) (a16 a17 a18 : Int) : Int :=
 let x21 : Int := (ibin .rem .i64 (ibin .add .i64 (ibin .rem .i64 a17 8) 8) 8)
 let x23 : Int := (ibin .mul .i64 (ibin .quo .i64 x21 4) 8)
 bif decide ((ibin .rem .i64 x21 4) = 0) then (let x27 : Int := (ibin .andNot .u32 a0 (ibin .shl .u32 255 x23))
 let x29 : Int := (ibin .shl .u32 (ibin .and .u32 a18 255) x23)
 bif decide ((ibin .rem .i64 x21 4) = 0) then a1 else
 bif decide ((ibin .rem .i64 x21 4) = 1) then ibin .or .u32 x27 x29 else
 bif decide ((ibin .rem .i64 x21 4) = 2) then a1 else
 bif decide ((ibin .rem .i64 x21 4) = 3) then a1 else 0) else
 bif decide ((ibin .rem .i64 x21 4) = 1) then (let x27 : Int := (ibin .andNot .u32 a1 (ibin .shl .u32 255 x23))
 let x29 : Int := (ibin .shl .u32 (ibin .and .u32 a18 255) x23)
 bif decide ((ibin .rem .i64 x21 4) = 0) then a1 else
 bif decide ((ibin .rem .i64 x21 4) = 1) then ibin .or .u32 x27 x29 else
 bif decide ((ibin .rem .i64 x21 4) = 2) then a1 else
 bif decide ((ibin .rem .i64 x21 4) = 3) then a1 else 0) else
 bif decide ((ibin .rem .i64 x21 4) = 2) then (let x27 : Int := (ibin .andNot .u32 a2 (ibin .shl .u32 255 x23))
 let x29 : Int := (ibin .shl .u32 (ibin .and .u32 a18 255) x23)
 bif decide ((ibin .rem .i64 x21 4) = 0) then a1 else
 bif decide ((ibin .rem .i64 x21 4) = 1) then ibin .or .u32 x27 x29 else
 bif decide ((ibin .rem .i64 x21 4) = 2) then a1 else
 bif decide ((ibin .rem .i64 x21 4) = 3) then a1 else 0) else
 bif decide ((ibin .rem .i64 x21 4) = 3) then (let x27 : Int := (ibin .andNot .u32 a3 (ibin .shl .u32 255 x23))
 let x29 : Int := (ibin .shl .u32 (ibin .and .u32 a18 255) x23)
 bif decide ((ibin .rem .i64 x21 4) = 0) then a1 else
 bif decide ((ibin .rem .i64 x21 4) = 1) then ibin .or .u32 x27 x29 else
 bif decide ((ibin .rem .i64 x21 4) = 2) then a1 else
 bif decide ((ibin .rem .i64 x21 4) = 3) then a1 else 0) else 0
def stSet_2 (a0 a1 a2 a3 a4 a5 a6 a7 a8 : Int) (a9 : Bool) (a10 : Bool) (a11 : Bool) (a12 : Bool) (a13 : Bool) (a14 : Bool) (a15 : Bool) (a16 a17 a18 : Int) : Int :=
 let x21 : Int := (ibin .rem .i64 (ibin .add .i64 (ibin .rem .i64 a17 8) 8) 8)
 let x23 : Int := (ibin .mul .i64 (ibin .quo .i64 x21 4) 8)
 bif decide ((ibin .rem .i64 x21 4) = 0) then (let x27 : Int := (ibin .andNot .u32 a0 (ibin .shl .u32 255 x23))
 let x29 : Int := (ibin .shl .u32 (ibin .and .u32 a18 255) x23)
 bif decide ((ibin .rem .i64 x21 4) = 0) then a2 else
 bif decide ((ibin .rem .i64 x21 4) = 1) then a2 else
 bif decide ((ibin .rem .i64 x21 4) = 2) then ibin .or .u32 x27 x29 else
 bif decide ((ibin .rem .i64 x21 4) = 3) then a2 else 0) else
 bif decide ((ibin .rem .i64 x21 4) = 1) then (let x27 : Int := (ibin .andNot .u32 a1 (ibin .shl .u32 255 x23))
 let x29 : Int := (ibin .shl .u32 (ibin .and .u32 a18 255) x23)
 bif decide ((ibin .rem .i64 x21 4) = 0) then a2 else
 bif decide ((ibin .rem .i64 x21 4) = 1) then a2 else
 bif decide ((ibin .rem .i64 x21 4) = 2) then ibin .or .u32 x27 x29 else
 bif decide ((ibin .rem .i64 x21 4) = 3) then a2 else 0) else
 bif decide ((ibin .rem .i64 x21 4) = 2) then (let x27 : Int := (ibin .andNot .u32 a2 (ibin .shl .u32 255 x23))
 let x29 : Int := (ibin .shl .u32 (ibin .and .u32 a18 255) x23)
 bif decide ((ibin .rem .i64 x21 4) = 0) then a2 else
 bif decide ((ibin .rem .i64 x21 4) = 1) then a2 else
 bif decide ((ibin .rem .i64 x21 4) = 2) then ibin .or .u32 x27 x29 else
 bif decide ((ibin .rem .i64 x21 4) = 3) then a2 else 0) else
 bif decide ((ibin .rem .i64 x21 4) = 3) then (let x27 : Int := (ibin .andNot .u32 a3 (ibin .shl .u32 255 x23))
 let x29 : Int := (ibin .shl .u32 (ibin .and .u32 a18 255) x23)
 bif decide ((ibin .rem .i64 x21 4) = 0) then a2 else
 bif decide ((ibin .rem .i64 x21 4) = 1) then a2 else
 bif decide ((ibin .rem .i64 x21 4) = 2) then ibin .or .u32 x27 x29 else
 bif decide ((ibin .rem .i64 x21 4) = 3) then a2 else 0) else 0
def stSet_3 (a0 a1 a2 a3 a4 a5 a6 a7 a8 : Int) (a9 : Bool) (a10 : Bool) (a11 : Bool) (a12 : Bool) (a13 : Bool) (a14 : Bool) (a15 : Bool) (a16 a17 a18 : Int) : Int :=
 let x21 : Int := (ibin .rem .i64 (ibin .add .i64 (ibin .rem .i64 a17 8) 8) 8)
 let x23 : Int := (ibin .mul .i64 (ibin .quo .i64 x21 4) 8)
 bif decide ((ibin .rem .i64 x21 4) = 0) then (let x27 : Int := (ibin .andNot .u32 a0 (ibin .shl .u32 255 x23))
 let x29 : Int := (ibin .shl .u32 (ibin .and .u32 a18 255) x23)
 bif decide ((ibin .rem .i64 x21 4) = 0) then a3 else
 bif decide ((ibin .rem .i64 x21 4) = 1) then a3 else
 bif decide ((ibin .rem .i64 x21 4) = 2) then a3 else
 bif decide ((ibin .rem .i64 x21 4) = 3) then ibin .or .u32 x27 x29 else 0) else
 bif decide ((ibin .rem .i64 x21 4) = 1) then (let x27 : Int := (ibin .andNot .u32 a1 (ibin .shl .u32 255 x23))
 let x29 : Int := (ibin .shl .u32 (ibin .and .u32 a18 255) x23)
 bif decide ((ibin .rem .i64 x21 4) = 0) then a3 else
 bif decide ((ibin .rem .i64 x21 4) = 1) then a3 else
 bif decide ((ibin .rem .i64 x21 4) = 2) then a3 else
 bif decide ((ibin .rem .i64 x21 4) = 3) then ibin .or .u32 x27 x29 else 0) else
 bif decide ((ibin .rem .i64 x21 4) = 2) then (let x27 : Int := (ibin .andNot .u32 a2 (ibin .shl .u32 255 x23))
 let x29 : Int := (ibin .shl .u32 (ibin .and .u32 a18 255) x23)
 bif decide ((ibin .rem .i64 x21 4) = 0) then a3 else
 bif decide ((ibin .rem .i64 x21 4) = 1) then a3 else
 bif decide ((ibin .rem .i64 x21 4) = 2) then a3 else
 bif decide ((ibin .rem .i64 x21 4) = 3) then ibin .or .u32 x27 x29 else 0) else
 bif decide ((ibin .rem .i64 x21 4) = 3) then (let x27 : Int := (ibin .andNot .u32 a3 (ibin .shl .u32 255 x23))
 let x29 : Int := (ibin .shl .u32 (ibin .and .u32 a18 255) x23)
 bif decide ((ibin .rem .i64 x21 4) = 0) then a3 else
 bif decide ((ibin .rem .i64 x21 4) = 1) then a3 else
 bif decide ((ibin .rem .i64 x21 4) = 2) then a3 else
 bif decide ((ibin .rem .i64 x21 4) = 3) then ibin .or .u32 x27 x29 else 0) else 0
def stSet_4 (a0 a1 a2 a3 a4 a5 a6 a7 a8 : Int) (a9 : Bool) (a10 : Bool) (a11 : Bool) (a12 : Bool) (a13 : Bool) (a14 : Bool) (a15 : Bool) (a16 a17 a18 : Int) : Int :=
 let x21 : Int := (ibin .rem .i64 (ibin .add .i64 (ibin .rem .i64 a17 8) 8) 8)
 bif decide ((ibin .rem .i64 x21 4) = 0) then (bif decide ((ibin .rem .i64 x21 4) = 0) then a4 else
 bif decide ((ibin .rem .i64 x21 4) = 1) then a4 else
 bif decide ((ibin .rem .i64 x21 4) = 2) then a4 else
 bif decide ((ibin .rem .i64 x21 4) = 3) then a4 else 0) else
 bif decide ((ibin .rem .i64 x21 4) = 1) then (bif decide ((ibin .rem .i64 x21 4) = 0) then a4 else
 bif decide ((ibin .rem .i64 x21 4) = 1) then a4 else
 bif decide ((ibin .rem .i64 x21 4) = 2) then a4 else
 bif decide ((ibin .rem .i64 x21 4) = 3) then a4 else 0) else
 bif decide ((ibin .rem .i64 x21 4) = 2) then (bif decide ((ibin .rem .i64 x21 4) = 0) then a4 else
 bif decide ((ibin .rem .i64 x21 4) = 1) then a4 else
 bif decide ((ibin .rem .i64 x21 4) = 2) then a4 else
 bif decide ((ibin .rem .i64 x21 4) = 3) then a4 else 0) else
 bif decide ((ibin .rem .i64 x21 4) = 3) then (bif decide ((ibin .rem .i64 x21 4) = 0) then a4 else
 bif decide ((ibin .rem .i64 x21 4) = 1) then a4 else
 bif decide ((ibin .rem .i64 x21 4) = 2) then a4 else
 bif decide ((ibin .rem .i64 x21 4) = 3) then a4 else 0) else 0
def stSet_5 (a0 a1 a2 a3 a4 a5 a6 a7 a8 : Int) (a9 : Bool) (a10 : Bool) (a11 : Bool) (a12 : Bool) (a13 : Bool) (a14 : Bool) (a15 : Bool) (a16 a17 a18 : Int) : Int :=
 let x21 : Int := (ibin .rem .i64 (ibin .add .i64 (ibin .rem .i64 a17 8) 8) 8)
 bif decide ((ibin .rem .i64 x21 4) = 0) then (bif decide ((ibin .rem .i64 x21 4) = 0) then a5 else
 bif decide ((ibin .rem .i64 x21 4) = 1) then a5 else
 bif decide ((ibin .rem .i64 x21 4) = 2) then a5 else
 bif decide ((ibin .rem .i64 x21 4) = 3) then a5 else 0) else
 bif decide ((ibin .rem .i64 x21 4) = 1) then (bif decide ((ibin .rem .i64 x21 4) = 0) then a5 else
 bif decide ((ibin .rem .i64 x21 4) = 1) then a5 else
 bif decide ((ibin .rem .i64 x21 4) = 2) then a5 else
 bif decide ((ibin .rem .i64 x21 4) = 3) then a5 else 0) else
 bif decide ((ibin .rem .i64 x21 4) = 2) then (bif decide ((ibin .rem .i64 x21 4) = 0) then a5 else
 bif decide ((ibin .rem .i64 x21 4) = 1) then a5 else
 bif decide ((ibin .rem .i64 x21 4) = 2) then a5 else
 bif decide ((ibin .rem .i64 x21 4) = 3) then a5 else 0) else
 bif decide ((ibin .rem .i64 x21 4) = 3) then (bif decide ((ibin .rem .i64 x21 4) = 0) then a5 else
 bif decide ((ibin .rem .i64 x21 4) = 1) then a5 else
 bif decide ((ibin .rem .i64 x21 4) = 2) then a5 else
 bif decide ((ibin .rem .i64 x21 4) = 3) then a5 else 0) else 0
def stSet_6 (a0 a1 a2 a3 a4 a5 a6 a7 a8 : Int) (a9 : Bool) (a10 : Bool) (a11 : Bool) (a12 : Bool) (a13 : Bool) (a14 : Bool) (a15 : Bool) (a16 a17 a18 : Int) : Int :=
 let x21 : Int := (ibin .rem .i64 (ibin .add .i64 (ibin .rem .i64 a17 8) 8) 8)
 bif decide ((ibin .rem .i64 x21 4) = 0) then (bif decide ((ibin .rem .i64 x21 4) = 0) then a6 else
 bif decide ((ibin .rem .i64 x21 4) = 1) then a6 else
 bif decide ((ibin .rem .i64 x21 4) = 2) then a6 else
 bif decide ((ibin .rem .i64 x21 4) = 3) then a6 else 0) else
 bif decide ((ibin .rem .i64 x21 4) = 1) then (bif decide ((ibin .rem .i64 x21 4) = 0) then a6 else
 bif decide ((ibin .rem .i64 x21 4) = 1) then a6 else
 bif decide ((ibin .rem .i64 x21 4) = 2) then a6 else
 bif decide ((ibin .rem .i64 x21 4) = 3) then a6 else 0) else
 bif decide ((ibin .rem .i64 x21 4) = 2) then (bif decide ((ibin .rem .i64 x21 4) = 0) then a6 else
 bif decide ((ibin .rem .i64 x21 4) = 1) then a6 else
 bif decide ((ibin .rem .i64 x21 4) = 2) then a6 else
 bif decide ((ibin .rem .i64 x21 4) = 3) then a6 else 0) else
 bif decide ((ibin .rem .i64 x21 4) = 3) then (bif decide ((ibin .rem .i64 x21 4) = 0) then a6 else
 bif decide ((ibin .rem .i64 x21 4) = 1) then a6 else
 bif decide ((ibin .rem .i64 x21 4) = 2) then a6 else
 bif decide ((ibin .rem .i64 x21 4) = 3) then a6 else 0) else 0
def stSet_7 (a0 a1 a2 a3 a4 a5 a6 a7 a8 : Int) (a9 : Bool) (a10 : Bool) (a11 : Bool) (a12 : Bool) (a13 : Bool) (a14 : Bool) (a15 : Bool) (a16 a17 a18 : Int) : Int :=
 let x21 : Int := (ibin .rem .i64 (ibin .add .i64 (ibin .rem .i64 a17 8) 8) 8)
 bif decide ((ibin .rem .i64 x21 4) = 0) then (bif decide ((ibin .rem .i64 x21 4) = 0) then a7 else
 bif decide ((ibin .rem .i64 x21 4) = 1) then a7 else
 bif decide ((ibin .rem .i64 x21 4) = 2) then a7 else
 bif decide ((ibin .rem .i64 x21 4) = 3) then a7 else 0) else
 bif decide ((ibin .rem .i64 x21 4) = 1) then (bif decide ((ibin .rem .i64 x21 4) = 0) then a7 else
 bif decide ((ibin .rem .i64 x21 4) = 1) then a7 else
 bif decide ((ibin .rem .i64 x21 4) = 2) then a7 else
 bif decide ((ibin .rem .i64 x21 4) = 3) then a7 else 0) else
 bif decide ((ibin .rem .i64 x21 4) = 2) then (bif decide ((ibin .rem .i64 x21 4) = 0) then a7 else
 bif decide ((ibin .rem .i64 x21 4) = 1) then a7 else
 bif decide ((ibin .rem .i64 x21 4) = 2) then a7 else
 bif decide ((ibin .rem .i64 x21 4) = 3) then a7 else 0) else
 bif decide ((ibin .rem .i64 x21 4) = 3) then (bif decide ((ibin .rem .i64 x21 4) = 0) then a7 else
 bif decide ((ibin .rem .i64 x21 4) = 1) then a7 else
 bif decide ((ibin .rem .i64 x21 4) = 2) then a7 else
 bif decide ((ibin .rem .i64 x21 4) = 3) then a7 else 0) else 0
def stSet_8 (a0 a1 a2 a3 a4 a5 a6 a7 a8 : Int) (a9 : Bool) (a10 : Bool) (a11 : Bool) (a12 : Bool) (a13 : Bool) (a14 : Bool) (a15 : Bool) (a16 a17 a18 : Int) : Int :=
 let x21 : Int := (ibin .rem .i64 (ibin .add .i64 (ibin .rem .i64 a17 8) 8) 8)
 bif decide ((ibin .rem .i64 x21 4) = 0) then (bif decide ((ibin .rem .i64 x21 4) = 0) then a8 else
 bif decide ((ibin .rem .i64 x21 4) = 1) then a8 else
 bif decide ((ibin .rem .i64 x21 4) = 2) then a8 else
 bif decide ((ibin .rem .i64 x21 4) = 3) then a8 else 0) else
 bif decide ((ibin .rem .i64 x21 4) = 1) then (bif decide ((ibin .rem .i64 x21 4) = 0) then a8 else
 bif decide ((ibin .rem .i64 x21 4) = 1) then a8 else
 bif decide ((ibin .rem .i64 x21 4) = 2) then a8 else
 bif decide ((ibin .rem .i64 x21 4) = 3) then a8 else 0) else
 bif decide ((ibin .rem .i64 x21 4) = 2) then (bif decide ((ibin .rem .i64 x21 4) = 0) then a8 else
 bif decide ((ibin .rem .i64 x21 4) = 1) then a8 else
 bif decide ((ibin .rem .i64 x21 4) = 2) then a8 else
 bif decide ((ibin .rem .i64 x21 4) = 3) then a8 else 0) else
 bif decide ((ibin .rem .i64 x21 4) = 3) then (bif decide ((ibin .rem .i64 x21 4) = 0) then a8 else
 bif decide ((ibin .rem .i64 x21 4) = 1) then a8 else
 bif decide ((ibin .rem .i64 x21 4) = 2) then a8 else
 bif decide ((ibin .rem .i64 x21 4) = 3) then a8 else 0) else 0
def stSet_9 (a0 a1 a2 a3 a4 a5 a6 a7 a8 : Int) (a9 : Bool) (a10 : Bool) (a11 : Bool) (a12 : Bool) (a13 : Bool) (a14 : Bool) (a15 : Bool) (a16 a17 a18 : Int) : Bool :=
 let x21 : Int := (ibin .rem .i64 (ibin .add .i64 (ibin .rem .i64 a17 8) 8) 8)
 bif decide ((ibin .rem .i64 x21 4) = 0) then (bif decide ((ibin .rem .i64 x21 4) = 0) then a9 else
 bif decide ((ibin .rem .i64 x21 4) = 1) then a9 else
 bif decide ((ibin .rem .i64 x21 4) = 2) then a9 else
 bif decide ((ibin .rem .i64 x21 4) = 3) then a9 else false) else
 bif decide ((ibin .rem .i64 x21 4) = 1) then (bif decide ((ibin .rem .i64 x21 4) = 0) then a9 else
 bif decide ((ibin .rem .i64 x21 4) = 1) then a9 else
 bif decide ((ibin .rem .i64 x21 4) = 2) then a9 else
 bif decide ((ibin .rem .i64 x21 4) = 3) then a9 else false) else
 bif decide ((ibin .rem .i64 x21 4) = 2) then (bif decide ((ibin .rem .i64 x21 4) = 0) then a9 else
 bif decide ((ibin .rem .i64 x21 4) = 1) then a9 else
 bif decide ((ibin .rem .i64 x21 4) = 2) then a9 else
 bif decide ((ibin .rem .i64 x21 4) = 3) then a9 else false) else
 bif decide ((ibin .rem .i64 x21 4) = 3) then (bif decide ((ibin .rem .i64 x21 4) = 0) then a9 else
 bif decide ((ibin .rem .i64 x21 4) = 1) then a9 else
 bif decide ((ibin .rem .i64 x21 4) = 2) then a9 else
 bif decide ((ibin .rem .i64 x21 4) = 3) then a9 else false) else false
def stSet_10 (a0 a1 a2 a3 a4 a5 a6 a7 a8 : Int) (a9 : Bool) (a10 : Bool) (a11 : Bool) (a12 : Bool) (a13 : Bool) (a14 : Bool) (a15 : Bool) (a16 a17 a18 : Int) : Bool :=
 let x21 : Int := (ibin .rem .i64 (ibin .add .i64 (ibin .rem .i64 a17 8) 8) 8)
 bif decide ((ibin .rem .i64 x21 4) = 0) then (bif decide ((ibin .rem .i64 x21 4) = 0) then a10 else
 bif decide ((ibin .rem .i64 x21 4) = 1) then a10 else
 bif decide ((ibin .rem .i64 x21 4) = 2) then a10 else
 bif decide ((ibin .rem .i64 x21 4) = 3) then a10 else false) else
 bif decide ((ibin .rem .i64 x21 4) = 1) then (bif decide ((ibin .rem .i64 x21 4) = 0) then a10 else
 bif decide ((ibin .rem .i64 x21 4) = 1) then a10 else
 bif decide ((ibin .rem .i64 x21 4) = 2) then a10 else
 bif decide ((ibin .rem .i64 x21 4) = 3) then a10 else false) else
 bif decide ((ibin .rem .i64 x21 4) = 2) then (bif decide ((ibin .rem .i64 x21 4) = 0) then a10 else
 bif decide ((ibin .rem .i64 x21 4) = 1) then a10 else
 bif decide ((ibin .rem .i64 x21 4) = 2) then a10 else
 bif decide ((ibin .rem .i64 x21 4) = 3) then a10 else false) else
 bif decide ((ibin .rem .i64 x21 4) = 3) then (bif decide ((ibin .rem .i64 x21 4) = 0) then a10 else
 bif decide ((ibin .rem .i64 x21 4) = 1) then a10 else
 bif decide ((ibin .rem .i64 x21 4) = 2) then a10 else
 bif decide ((ibin .rem .i64 x21 4) = 3) then a10 else false) else false
def stSet_11 (a0 a1 a2 a3 a4 a5 a6 a7 a8 : Int) (a9 : Bool) (a10 : Bool) (a11 : Bool) (a12 : Bool) (a13 : Bool) (a14 : Bool) (a15 : Bool) (a16 a17 a18 : Int) : Bool :=
 let x21 : Int := (ibin .rem .i64 (ibin .add .i64 (ibin .rem .i64 a17 8) 8) 8)
 bif decide ((ibin .rem .i64 x21 4) = 0) then (bif decide ((ibin .rem .i64 x21 4) = 0) then a11 else
 bif decide ((ibin .rem .i64 x21 4) = 1) then a11 else
 bif decide ((ibin .rem .i64 x21 4) = 2) then a11 else
 bif decide ((ibin .rem .i64 x21 4) = 3) then a11 else false) else
 bif decide ((ibin .rem .i64 x21 4) = 1) then (bif decide ((ibin .rem .i64 x21 4) = 0) then a11 else
 bif decide ((ibin .rem .i64 x21 4) = 1) then a11 else
 bif decide ((ibin .rem .i64 x21 4) = 2) then a11 else
 bif decide ((ibin .rem .i64 x21 4) = 3) then a11 else false) else
 bif decide ((ibin .rem .i64 x21 4) = 2) then (bif decide ((ibin .rem .i64 x21 4) = 0) then a11 else
 bif decide ((ibin .rem .i64 x21 4) = 1) then a11 else
 bif decide ((ibin .rem .i64 x21 4) = 2) then a11 else
 bif decide ((ibin .rem .i64 x21 4) = 3) then a11 else false) else
 bif decide ((ibin .rem .i64 x21 4) = 3) then (bif decide ((ibin .rem .i64 x21 4) = 0) then a11 else
 bif decide ((ibin .rem .i64 x21 4) = 1) then a11 else
 bif decide ((ibin .rem .i64 x21 4) = 2) then a11 else
 bif decide ((ibin .rem .i64 x21 4) = 3) then a11 else false) else false
def stSet_12 (a0 a1 a2 a3 a4 a5 a6 a7 a8 : Int) (a9 : Bool) (a10 : Bool) (a11 : Bool) (a12 : Bool) (a13 : Bool) (a14 : Bool) (a15 : Bool) (a16 a17 a18 : Int) : Bool :=
 let x21 : Int := (ibin .rem .i64 (ibin .add .i64 (ibin .rem .i64 a17 8) 8) 8)
 bif decide ((ibin .rem .i64 x21 4) = 0) then (bif decide ((ibin .rem .i64 x21 4) = 0) then a12 else
 bif decide ((ibin .rem .i64 x21 4) = 1) then a12 else
 bif decide ((ibin .rem .i64 x21 4) = 2) then a12 else
 bif decide ((ibin .rem .i64 x21 4) = 3) then a12 else false) else
 bif decide ((ibin .rem .i64 x21 4) = 1) then (bif decide ((ibin .rem .i64 x21 4) = 0) then a12 else
 bif decide ((ibin .rem .i64 x21 4) = 1) then a12 else
 bif decide ((ibin .rem .i64 x21 4) = 2) then a12 else
 bif decide ((ibin .rem .i64 x21 4) = 3) then a12 else false) else
 bif decide ((ibin .rem .i64 x21 4) = 2) then (bif decide ((ibin .rem .i64 x21 4) = 0) then a12 else
 bif decide ((ibin .rem .i64 x21 4) = 1) then a12 else
 bif decide ((ibin .rem .i64 x21 4) = 2) then a12 else
 bif decide ((ibin .rem .i64 x21 4) = 3) then a12 else false) else
 bif decide ((ibin .rem .i64 x21 4) = 3) then (bif decide ((ibin .rem .i64 x21 4) = 0) then a12 else
 bif decide ((ibin .rem .i64 x21 4) = 1) then a12 else
 bif decide ((ibin .rem .i64 x21 4) = 2) then a12 else
 bif decide ((ibin .rem .i64 x21 4) = 3) then a12 else false) else false
def stSet_13 (a0 a1 a2 a3 a4 a5 a6 a7 a8 : Int) (a9 : Bool) (a10 : Bool) (a11 : Bool) (a12 : Bool) (a13 : Bool) (a14 : Bool) (a15 : Bool) (a16 a17 a18 : Int) : Bool :=
 let x21 : Int := (ibin .rem .i64 (ibin .add .i64 (ibin .rem .i64 a17 8) 8) 8)
 bif decide ((ibin .rem .i64 x21 4) = 0) then (bif decide ((ibin .rem .i64 x21 4) = 0) then a13 else
 bif decide ((ibin .rem .i64 x21 4) = 1) then a13 else
 bif decide ((ibin .rem .i64 x21 4) = 2) then a13 else
 bif decide ((ibin .rem .i64 x21 4) = 3) then a13 else false) else
 bif decide ((ibin .rem .i64 x21 4) = 1) then (bif decide ((ibin .rem .i64 x21 4) = 0) then a13 else
 bif decide ((ibin .rem .i64 x21 4) = 1) then a13 else
 bif decide ((ibin .rem .i64 x21 4) = 2) then a13 else
 bif decide ((ibin .rem .i64 x21 4) = 3) then a13 else false) else
 bif decide ((ibin .rem .i64 x21 4) = 2) then (bif decide ((ibin .rem .i64 x21 4) = 0) then a13 else
 bif decide ((ibin .rem .i64 x21 4) = 1) then a13 else
 bif decide ((ibin .rem .i64 x21 4) = 2) then a13 else
 bif decide ((ibin .rem .i64 x21 4) = 3) then a13 else false) else
 bif decide ((ibin .rem .i64 x21 4) = 3) then (bif decide ((ibin .rem .i64 x21 4) = 0) then a13 else
 bif decide ((ibin .rem .i64 x21 4) = 1) then a13 else
 bif decide ((ibin .rem .i64 x21 4) = 2) then a13 else
 bif decide ((ibin .rem .i64 x21 4) = 3) then a13 else false) else false
def stSet_14 (a0 a1 a2 a3 a4 a5 a6 a7 a8 : Int) (a9 : Bool) (a10 : Bool) (a11 : Bool) (a12 : Bool) (a13 : Bool) (a14 : Bool) (a15 : Bool) (a16 a17 a18 : Int) : Bool :=
 let x21 : Int := (ibin .rem .i64 (ibin .add .i64 (ibin .rem .i64 a17 8) 8) 8)
 bif decide ((ibin .rem .i64 x21 4) = 0) then (bif decide ((ibin .rem .i64 x21 4) = 0) then a14 else
 bif decide ((ibin .rem .i64 x21 4) = 1) then a14 else
 bif decide ((ibin .rem .i64 x21 4) = 2) then a14 else
 bif decide ((ibin .rem .i64 x21 4) = 3) then a14 else false) else
 bif decide ((ibin .rem .i64 x21 4) = 1) then (bif decide ((ibin .rem .i64 x21 4) = 0) then a14 else
 bif decide ((ibin .rem .i64 x21 4) = 1) then a14 else
 bif decide ((ibin .rem .i64 x21 4) = 2) then a14 else
 bif decide ((ibin .rem .i64 x21 4) = 3) then a14 else false) else
 bif decide ((ibin .rem .i64 x21 4) = 2) then (bif decide ((ibin .rem .i64 x21 4) = 0) then a14 else
 bif decide ((ibin .rem .i64 x21 4) = 1) then a14 else
 bif decide ((ibin .rem .i64 x21 4) = 2) then a14 else
 bif decide ((ibin .rem .i64 x21 4) = 3) then a14 else false) else
 bif decide ((ibin .rem .i64 x21 4) = 3) then (bif decide ((ibin .rem .i64 x21 4) = 0) then a14 else
 bif decide ((ibin .rem .i64 x21 4) = 1) then a14 else
 bif decide ((ibin .rem .i64 x21 4) = 2) then a14 else
 bif decide ((ibin .rem .i64 x21 4) = 3) then a14 else false) else false
def stSet_15 (a0 a1 a2 a3 a4 a5 a6 a7 a8 : Int) (a9 : Bool) (a10 : Bool) (a11 : Bool) (a12 : Bool) (a13 : Bool) (a14 : Bool) (a15 : Bool) (a16 a17 a18 : Int) : Bool :=
 let x21 : Int := (ibin .rem .i64 (ibin .add .i64 (ibin .rem .i64 a17 8) 8) 8)
 bif decide ((ibin .rem .i64 x21 4) = 0) then (bif decide ((ibin .rem .i64 x21 4) = 0) then a15 else
 bif decide ((ibin .rem .i64 x21 4) = 1) then a15 else
 bif decide ((ibin .rem .i64 x21 4) = 2) then a15 else
 bif decide ((ibin .rem .i64 x21 4) = 3) then a15 else false) else
 bif decide ((ibin .rem .i64 x21 4) = 1) then (bif decide ((ibin .rem .i64 x21 4) = 0) then a15 else
 bif decide ((ibin .rem .i64 x21 4) = 1) then a15 else
 bif decide ((ibin .rem .i64 x21 4) = 2) then a15 else
 bif decide ((ibin .rem .i64 x21 4) = 3) then a15 else false) else
 bif decide ((ibin .rem .i64 x21 4) = 2) then (bif decide ((ibin .rem .i64 x21 4) = 0) then a15 else
 bif decide ((ibin .rem .i64 x21 4) = 1) then a15 else
 bif decide ((ibin .rem .i64 x21 4) = 2) then a15 else
 bif decide ((ibin .rem .i64 x21 4) = 3) then a15 else false) else
 bif decide ((ibin .rem .i64 x21 4) = 3) then (bif decide ((ibin .rem .i64 x21 4) = 0) then a15 else
 bif decide ((ibin .rem .i64 x21 4) = 1) then a15 else
 bif decide ((ibin .rem .i64 x21 4) = 2) then a15 else
 bif decide ((ibin .rem .i64 x21 4) = 3) then a15 else false) else false
def stSet_16 (a0 a1 a2 a3 a4 a5 a6 a7 a8 : Int) (a9 : Bool) (a10 : Bool) (a11 : Bool) (a12 : Bool) (a13 : Bool) (a14 : Bool) (a15 : Bool) (a16 a17 a18 : Int) : Int :=
 let x21 : Int := (ibin .rem .i64 (ibin .add .i64 (ibin .rem .i64 a17 8) 8) 8)
 bif decide ((ibin .rem .i64 x21 4) = 0) then (bif decide ((ibin .rem .i64 x21 4) = 0) then a16 else
 bif decide ((ibin .rem .i64 x21 4) = 1) then a16 else
 bif decide ((ibin .rem .i64 x21 4) = 2) then a16 else
 bif decide ((ibin .rem .i64 x21 4) = 3) then a16 else 0) else
 bif decide ((ibin .rem .i64 x21 4) = 1) then (bif decide ((ibin .rem .i64 x21 4) = 0) then a16 else
 bif decide ((ibin .rem .i64 x21 4) = 1) then a16 else
 bif decide ((ibin .rem .i64 x21 4) = 2) then a16 else
 bif decide ((ibin .rem .i64 x21 4) = 3) then a16 else 0) else
 bif decide ((ibin .rem .i64 x21 4) = 2) then (bif decide ((ibin .rem .i64 x21 4) = 0) then a16 else
 bif decide ((ibin .rem .i64 x21 4) = 1) then a16 else
 bif decide ((ibin .rem .i64 x21 4) = 2) then a16 else
 bif decide ((ibin .rem .i64 x21 4) = 3) then a16 else 0) else
 bif decide ((ibin .rem .i64 x21 4) = 3) then (bif decide ((ibin .rem .i64 x21 4) = 0) then a16 else
 bif decide ((ibin .rem .i64 x21 4) = 1) then a16 else
 bif decide ((ibin .rem .i64 x21 4) = 2) then a16 else
 bif decide ((ibin .rem .i64 x21 4) = 3) then a16 else 0) else 0
def phiI (f : Nat) (vs : List Value) (j : Nat) : Int :=
  (match Nat.beq f 33 with
  | true => (match vs with | [.int _ a0, .int _ a1, .int _ a2] => (match Nat.beq j 0 with | true => btField a0 a1 a2 | false => 0) | _ => 0)
  | false =>
  (match Nat.beq f 97 with
  | true => (match vs with | [.int _ a0, .int _ a1] => (match Nat.beq j 0 with | true => btSigned a0 a1 | false => 0) | _ => 0)
  | false =>
  (match Nat.beq f 67 with
  | true => (match vs with | [.int _ a0] => (match Nat.beq j 0 with | true => btSign12 a0 | false => 0) | _ => 0)
  | false =>
  (match Nat.beq f 88 with
  | true => (match vs with | [.int _ a0, .int _ a1, .int _ a2] => (match Nat.beq j 0 with | true => rfField a0 a1 a2 | false => 0) | _ => 0)
  | false =>
  (match Nat.beq f 71 with
  | true => (match vs with | [.int _ a0, .int _ a1] => (match Nat.beq j 0 with | true => rfSigned a0 a1 | false => 0) | _ => 0)
  | false =>
  (match Nat.beq f 80 with
  | true => (match vs with | [.int _ a0] => (match Nat.beq j 1 with | true => rvOf_1 a0 | false => (match Nat.beq j 2 with | true => rvOf_2 a0 | false => (match Nat.beq j 3 with | true => rvOf_3 a0 | false => (match Nat.beq j 4 with | true => rvOf_4 a0 | false => 0)))) | _ => 0)
  | false =>
  (match Nat.beq f 85 with
  | true => (match vs with | [.int _ a0, .int _ a1] => (match Nat.beq j 0 with | true => rvImm a0 a1 | false => 0) | _ => 0)
  | false =>
  (match Nat.beq f 66 with
  | true => (match vs with | [.int _ a0, .int _ a1, .int _ a2, .int _ a3, .int _ a4] => (match Nat.beq j 0 with | true => rvEnc_0 a0 a1 a2 a3 a4 | false => (match Nat.beq j 1 with | true => rvEnc_1 a0 a1 a2 a3 a4 | false => 0)) | _ => 0)
  | false =>
  (match Nat.beq f 94 with
  | true => (match vs with | [.int _ a0, .int _ a1, .int _ a2] => (match Nat.beq j 0 with | true => rvFind a0 a1 a2 | false => 0) | _ => 0)
  | false =>
  (match Nat.beq f 79 with
  | true => (match vs with | [.int _ a0] => (match Nat.beq j 0 with | true => rvOpOf a0 | false => 0) | _ => 0)
  | false =>
  (match Nat.beq f 81 with
  | true => (match vs with | [.int _ a0, .int _ a1] => (match Nat.beq j 0 with | true => rvNumOf a0 a1 | false => 0) | _ => 0)
  | false =>
  (match Nat.beq f 64 with
  | true => (match vs with | [.int _ a0] => (match Nat.beq j 0 with | true => rvDec_0 a0 | false => (match Nat.beq j 1 with | true => rvDec_1 a0 | false => (match Nat.beq j 2 with | true => rvDec_2 a0 | false => (match Nat.beq j 3 with | true => rvDec_3 a0 | false => (match Nat.beq j 4 with | true => rvDec_4 a0 | false => 0))))) | _ => 0)
  | false =>
  (match Nat.beq f 69 with
  | true => (match vs with | [.int _ a0] => (match Nat.beq j 0 with | true => rfOf_0 a0 | false => (match Nat.beq j 1 with | true => rfOf_1 a0 | false => (match Nat.beq j 2 with | true => rfOf_2 a0 | false => (match Nat.beq j 3 with | true => rfOf_3 a0 | false => 0)))) | _ => 0)
  | false =>
  (match Nat.beq f 72 with
  | true => (match vs with | [.int _ a0, .int _ a1, .int _ a2, .int _ a3, .int _ a4] => (match Nat.beq j 0 with | true => rfEnc_0 a0 a1 a2 a3 a4 | false => 0) | _ => 0)
  | false =>
  (match Nat.beq f 43 with
  | true => (match vs with | [.int _ a0] => (match Nat.beq j 0 with | true => rfDec_0 a0 | false => (match Nat.beq j 1 with | true => rfDec_1 a0 | false => (match Nat.beq j 2 with | true => rfDec_2 a0 | false => (match Nat.beq j 3 with | true => rfDec_3 a0 | false => (match Nat.beq j 4 with | true => rfDec_4 a0 | false => 0))))) | _ => 0)
  | false =>
  (match Nat.beq f 78 with
  | true => (match vs with | [.int _ a0] => (match Nat.beq j 0 with | true => btBytes_0 a0 | false => (match Nat.beq j 1 with | true => btBytes_1 a0 | false => (match Nat.beq j 2 with | true => btBytes_2 a0 | false => (match Nat.beq j 3 with | true => btBytes_3 a0 | false => 0)))) | _ => 0)
  | false =>
  (match Nat.beq f 51 with
  | true => (match vs with | [.int _ a0, .int _ a1] => (match Nat.beq j 0 with | true => btMulS_0 a0 a1 | false => (match Nat.beq j 1 with | true => btMulS_1 a0 a1 | false => 0)) | _ => 0)
  | false =>
  (match Nat.beq f 50 with
  | true => (match vs with | [.int _ a0, .int _ a1] => (match Nat.beq j 0 with | true => btMulU_0 a0 a1 | false => (match Nat.beq j 1 with | true => btMulU_1 a0 a1 | false => 0)) | _ => 0)
  | false =>
  (match Nat.beq f 91 with
  | true => (match vs with | [.int _ a0, .int _ a1] => (match Nat.beq j 0 with | true => rfMulS_0 a0 a1 | false => (match Nat.beq j 1 with | true => rfMulS_1 a0 a1 | false => 0)) | _ => 0)
  | false =>
  (match Nat.beq f 90 with
  | true => (match vs with | [.int _ a0, .int _ a1] => (match Nat.beq j 0 with | true => rfMulU_0 a0 a1 | false => (match Nat.beq j 1 with | true => rfMulU_1 a0 a1 | false => 0)) | _ => 0)
  | false =>
  (match Nat.beq f 73 with
  | true => (match vs with | [.bool a0] => (match Nat.beq j 0 with | true => rhOne a0 | false => 0) | _ => 0)
  | false =>
  (match Nat.beq f 74 with
  | true => (match vs with | [.int _ a0, .int _ a1, .int _ a2] => (match Nat.beq j 0 with | true => rhMuldiv a0 a1 a2 | false => 0) | _ => 0)
  | false =>
  (match Nat.beq f 47 with
  | true => (match vs with | [.int _ a0, .int _ a1, .int _ a2] => (match Nat.beq j 0 with | true => rhAlu a0 a1 a2 | false => 0) | _ => 0)
  | false =>
  (match Nat.beq f 39 with
  | true => (match vs with | [.int _ a0] => (match Nat.beq j 0 with | true => asHalves_0 a0 | false => (match Nat.beq j 1 with | true => asHalves_1 a0 | false => 0)) | _ => 0)
  | false =>
  (match Nat.beq f 9 with
  | true => (match vs with | [.int _ a0, .int _ a1, .int _ a2, .int _ a3, .int _ a4, .int _ a5, .int _ a6, .int _ a7, .int _ a8, .bool a9, .bool a10, .bool a11, .bool a12, .bool a13, .bool a14, .bool a15, .int _ a16, .int _ a17] => (match Nat.beq j 0 with | true => stReg a0 a1 a2 a3 a4 a5 a6 a7 a8 a9 a10 a11 a12 a13 a14 a15 a16 a17 | false => 0) | _ => 0)
  | false =>
  (match Nat.beq f 10 with
  | true => (match vs with | [.int _ a0, .int _ a1, .int _ a2, .int _ a3, .int _ a4, .int _ a5, .int _ a6, .int _ a7, .int _ a8, .bool a9, .bool a10, .bool a11, .bool a12, .bool a13, .bool a14, .bool a15, .int _ a16, .int _ a17, .int _ a18] => (match Nat.beq j 0 with | true => stSet_0 a0 a1 a2 a3 a4 a5 a6 a7 a8 a9 a10 a11 a12 a13 a14 a15 a16 a17 a18 | false => (match Nat.beq j 1 with | true => stSet_1 a0 a1 a2 a3 a4 a5 a6 a7 a8 a9 a10 a11 a12 a13 a14 a15 a16 a17 a18 | false => (match Nat.beq j 2 with | true => stSet_2 a0 a1 a2 a3 a4 a5 a6 a7 a8 a9 a10 a11 a12 a13 a14 a15 a16 a17 a18 | false => (match Nat.beq j 3 with | true => stSet_3 a0 a1 a2 a3 a4 a5 a6 a7 a8 a9 a10 a11 a12 a13 a14 a15 a16 a17 a18 | false => (match Nat.beq j 4 with | true => stSet_4 a0 a1 a2 a3 a4 a5 a6 a7 a8 a9 a10 a11 a12 a13 a14 a15 a16 a17 a18 | false => (match Nat.beq j 5 with | true => stSet_5 a0 a1 a2 a3 a4 a5 a6 a7 a8 a9 a10 a11 a12 a13 a14 a15 a16 a17 a18 | false => (match Nat.beq j 6 with | true => stSet_6 a0 a1 a2 a3 a4 a5 a6 a7 a8 a9 a10 a11 a12 a13 a14 a15 a16 a17 a18 | false => (match Nat.beq j 7 with | true => stSet_7 a0 a1 a2 a3 a4 a5 a6 a7 a8 a9 a10 a11 a12 a13 a14 a15 a16 a17 a18 | false => (match Nat.beq j 8 with | true => stSet_8 a0 a1 a2 a3 a4 a5 a6 a7 a8 a9 a10 a11 a12 a13 a14 a15 a16 a17 a18 | false => (match Nat.beq j 16 with | true => stSet_16 a0 a1 a2 a3 a4 a5 a6 a7 a8 a9 a10 a11 a12 a13 a14 a15 a16 a17 a18 | false => 0)))))))))) | _ => 0)
  | false =>
  0))))))))))))))))))))))))))
def phiB (f : Nat) (vs : List Value) (j : Nat) : Bool :=
  (match Nat.beq f 98 with
  | true => (match vs with | [.int _ a0, .bool a1] => (match Nat.beq j 0 with | true => rvReg a0 a1 | false => false) | _ => false)
  | false =>
  (match Nat.beq f 83 with
  | true => (match vs with | [.int _ a0] => (match Nat.beq j 0 with | true => rvParts_0 a0 | false => (match Nat.beq j 1 with | true => rvParts_1 a0 | false => (match Nat.beq j 2 with | true => rvParts_2 a0 | false => false))) | _ => false)
  | false =>
  (match Nat.beq f 99 with
  | true => (match vs with | [.int _ a0, .int _ a1] => (match Nat.beq j 0 with | true => rvNum a0 a1 | false => false) | _ => false)
  | false =>
  (match Nat.beq f 80 with
  | true => (match vs with | [.int _ a0] => (match Nat.beq j 5 with | true => rvOf_5 a0 | false => false) | _ => false)
  | false =>
  (match Nat.beq f 84 with
  | true => (match vs with | [.int _ a0, .int _ a1, .int _ a2, .int _ a3, .int _ a4] => (match Nat.beq j 0 with | true => rvIs a0 a1 a2 a3 a4 | false => false) | _ => false)
  | false =>
  (match Nat.beq f 64 with
  | true => (match vs with | [.int _ a0] => (match Nat.beq j 5 with | true => rvDec_5 a0 | false => false) | _ => false)
  | false =>
  (match Nat.beq f 89 with
  | true => (match vs with | [.int _ a0, .int _ a1, .int _ a2, .int _ a3, .int _ a4] => (match Nat.beq j 0 with | true => rfIs a0 a1 a2 a3 a4 | false => false) | _ => false)
  | false =>
  (match Nat.beq f 72 with
  | true => (match vs with | [.int _ a0, .int _ a1, .int _ a2, .int _ a3, .int _ a4] => (match Nat.beq j 1 with | true => rfEnc_1 a0 a1 a2 a3 a4 | false => false) | _ => false)
  | false =>
  (match Nat.beq f 43 with
  | true => (match vs with | [.int _ a0] => (match Nat.beq j 5 with | true => rfDec_5 a0 | false => false) | _ => false)
  | false =>
  (match Nat.beq f 46 with
  | true => (match vs with | [.int _ a0, .int _ a1, .int _ a2] => (match Nat.beq j 0 with | true => rhTaken a0 a1 a2 | false => false) | _ => false)
  | false =>
  (match Nat.beq f 38 with
  | true => (match vs with | [.int _ a0] => (match Nat.beq j 0 with | true => asReg a0 | false => false) | _ => false)
  | false =>
  (match Nat.beq f 11 with
  | true => (match vs with | [] => (match Nat.beq j 0 with | true => kaKnown | false => false) | _ => false)
  | false =>
  (match Nat.beq f 8 with
  | true => (match vs with | [] => (match Nat.beq j 0 with | true => ksKnown | false => false) | _ => false)
  | false =>
  (match Nat.beq f 10 with
  | true => (match vs with | [.int _ a0, .int _ a1, .int _ a2, .int _ a3, .int _ a4, .int _ a5, .int _ a6, .int _ a7, .int _ a8, .bool a9, .bool a10, .bool a11, .bool a12, .bool a13, .bool a14, .bool a15, .int _ a16, .int _ a17, .int _ a18] => (match Nat.beq j 9 with | true => stSet_9 a0 a1 a2 a3 a4 a5 a6 a7 a8 a9 a10 a11 a12 a13 a14 a15 a16 a17 a18 | false => (match Nat.beq j 10 with | true => stSet_10 a0 a1 a2 a3 a4 a5 a6 a7 a8 a9 a10 a11 a12 a13 a14 a15 a16 a17 a18 | false => (match Nat.beq j 11 with | true => stSet_11 a0 a1 a2 a3 a4 a5 a6 a7 a8 a9 a10 a11 a12 a13 a14 a15 a16 a17 a18 | false => (match Nat.beq j 12 with | true => stSet_12 a0 a1 a2 a3 a4 a5 a6 a7 a8 a9 a10 a11 a12 a13 a14 a15 a16 a17 a18 | false => (match Nat.beq j 13 with | true => stSet_13 a0 a1 a2 a3 a4 a5 a6 a7 a8 a9 a10 a11 a12 a13 a14 a15 a16 a17 a18 | false => (match Nat.beq j 14 with | true => stSet_14 a0 a1 a2 a3 a4 a5 a6 a7 a8 a9 a10 a11 a12 a13 a14 a15 a16 a17 a18 | false => (match Nat.beq j 15 with | true => stSet_15 a0 a1 a2 a3 a4 a5 a6 a7 a8 a9 a10 a11 a12 a13 a14 a15 a16 a17 a18 | false => false))))))) | _ => false)
  | false =>
  false))))))))))))))
def phiS (f : Nat) (vs : List Value) (j : Nat) : ByteArray :=
  (match Nat.beq f 80 with
  | true => (match vs with | [.int _ a0] => (match Nat.beq j 0 with | true => rvOf_0 a0 | false => .empty) | _ => .empty)
  | false =>
  .empty)
def phi : Phi := ⟨phiI, phiB, phiS⟩
def btFieldS : Sum := ⟨[(false, [(.ri .u32)]), (false, [(.ri .i64)]), (false, [(.ri .i64)])], [(.ri .u32)], [(false, 1)], false, false⟩
def btSignedS : Sum := ⟨[(false, [(.ri .u32)]), (false, [(.ri .i64)])], [(.ri .i32)], [(false, 1)], false, false⟩
def btSign12S : Sum := ⟨[(false, [(.ri .u32)])], [(.ri .u32)], [(false, 1)], false, false⟩
def rfFieldS : Sum := ⟨[(false, [(.ri .u32)]), (false, [(.ri .i64)]), (false, [(.ri .i64)])], [(.ri .u32)], [(false, 1)], false, false⟩
def rfSignedS : Sum := ⟨[(false, [(.ri .u32)]), (false, [(.ri .i64)])], [(.ri .i32)], [(false, 1)], false, false⟩
def rvRegS : Sum := ⟨[(false, [(.ri .i64)]), (false, [.rb])], [.rb], [(false, 1)], false, false⟩
def rvPartsS : Sum := ⟨[(false, [(.ri .i64)])], [.rb, .rb, .rb], [(true, 3)], false, false⟩
def rvNumS : Sum := ⟨[(false, [(.ri .i64)]), (false, [(.ri .i32)])], [.rb], [(false, 1)], false, false⟩
def rvOfS : Sum := ⟨[(false, [(.ri .i64)])], [.rs, (.ri .i64), (.ri .u32), (.ri .u32), (.ri .u32), .rb], [(true, 5), (false, 1)], true, false⟩
def rvIsS : Sum := ⟨[(true, [(.ri .i64), (.ri .i64), (.ri .i64), (.ri .i64), (.ri .i32)])], [.rb], [(false, 1)], false, false⟩
def rvImmS : Sum := ⟨[(false, [(.ri .i64)]), (false, [(.ri .i32)])], [(.ri .u32)], [(false, 1)], false, false⟩
def rvEncS : Sum := ⟨[(true, [(.ri .i64), (.ri .i64), (.ri .i64), (.ri .i64), (.ri .i32)])], [(.ri .u32), (.ri .i64)], [(false, 1), (false, 1)], true, false⟩
def rvFindS : Sum := ⟨[(true, [(.ri .u32), (.ri .u32), (.ri .u32)])], [(.ri .i64)], [(false, 1)], false, false⟩
def rvOpOfS : Sum := ⟨[(false, [(.ri .u32)])], [(.ri .i64)], [(false, 1)], false, false⟩
def rvNumOfS : Sum := ⟨[(false, [(.ri .i64)]), (false, [(.ri .u32)])], [(.ri .i32)], [(false, 1)], false, false⟩
def rvDecS : Sum := ⟨[(false, [(.ri .u32)])], [(.ri .i64), (.ri .i64), (.ri .i64), (.ri .i64), (.ri .i32), .rb], [(true, 5), (false, 1)], true, false⟩
def rfOfS : Sum := ⟨[(false, [(.ri .i64)])], [(.ri .u8), (.ri .u32), (.ri .u32), (.ri .u32)], [(true, 4)], false, false⟩
def rfIsS : Sum := ⟨[(true, [(.ri .i64), (.ri .i64), (.ri .i64), (.ri .i64), (.ri .i32)])], [.rb], [(false, 1)], false, false⟩
def rfEncS : Sum := ⟨[(true, [(.ri .i64), (.ri .i64), (.ri .i64), (.ri .i64), (.ri .i32)])], [(.ri .u32), .rb], [(false, 1), (false, 1)], true, false⟩
def rfDecS : Sum := ⟨[(false, [(.ri .u32)])], [(.ri .i64), (.ri .i64), (.ri .i64), (.ri .i64), (.ri .i32), .rb], [(true, 5), (false, 1)], true, false⟩
def btBytesS : Sum := ⟨[(false, [(.ri .u32)])], [(.ri .u8), (.ri .u8), (.ri .u8), (.ri .u8)], [(true, 4)], false, false⟩
def btMulSS : Sum := ⟨[(false, [(.ri .u32)]), (false, [(.ri .u32)])], [(.ri .u32), (.ri .u32)], [(false, 1), (false, 1)], true, false⟩
def btMulUS : Sum := ⟨[(false, [(.ri .u32)]), (false, [(.ri .u32)])], [(.ri .u32), (.ri .u32)], [(false, 1), (false, 1)], true, false⟩
def rfMulSS : Sum := ⟨[(false, [(.ri .u32)]), (false, [(.ri .u32)])], [(.ri .u32), (.ri .u32)], [(false, 1), (false, 1)], true, false⟩
def rfMulUS : Sum := ⟨[(false, [(.ri .u32)]), (false, [(.ri .u32)])], [(.ri .u32), (.ri .u32)], [(false, 1), (false, 1)], true, false⟩
def rhOneS : Sum := ⟨[(false, [.rb])], [(.ri .u32)], [(false, 1)], false, false⟩
def rhTakenS : Sum := ⟨[(false, [(.ri .i64)]), (false, [(.ri .u32)]), (false, [(.ri .u32)])], [.rb], [(false, 1)], false, false⟩
def rhMuldivS : Sum := ⟨[(false, [(.ri .i64)]), (false, [(.ri .u32)]), (false, [(.ri .u32)])], [(.ri .u32)], [(false, 1)], false, false⟩
def rhAluS : Sum := ⟨[(false, [(.ri .i64)]), (false, [(.ri .u32)]), (false, [(.ri .u32)])], [(.ri .u32)], [(false, 1)], false, false⟩
def asRegS : Sum := ⟨[(false, [(.ri .i64)])], [.rb], [(false, 1)], false, false⟩
def asHalvesS : Sum := ⟨[(false, [(.ri .u32)])], [(.ri .i32), (.ri .i32)], [(false, 1), (false, 1)], true, false⟩
def kaKnownS : Sum := ⟨[], [.rb], [(false, 1)], false, false⟩
def ksKnownS : Sum := ⟨[], [.rb], [(false, 1)], false, false⟩
def stRegS : Sum := ⟨[(true, [(.ri .u32), (.ri .u32), (.ri .u32), (.ri .u32), (.ri .u32), (.ri .u32), (.ri .u32), (.ri .u32), (.ri .u32), .rb, .rb, .rb, .rb, .rb, .rb, .rb, (.ri .u64)]), (false, [(.ri .i64)])], [(.ri .u32)], [(false, 1)], false, false⟩
def stSetS : Sum := ⟨[(true, [(.ri .u32), (.ri .u32), (.ri .u32), (.ri .u32), (.ri .u32), (.ri .u32), (.ri .u32), (.ri .u32), (.ri .u32), .rb, .rb, .rb, .rb, .rb, .rb, .rb, (.ri .u64)]), (false, [(.ri .i64)]), (false, [(.ri .u32)])], [(.ri .u32), (.ri .u32), (.ri .u32), (.ri .u32), (.ri .u32), (.ri .u32), (.ri .u32), (.ri .u32), (.ri .u32), .rb, .rb, .rb, .rb, .rb, .rb, .rb, (.ri .u64)], [(true, 17)], false, false⟩
end Go.Proofs.Ytndfcpkmchjncaa
