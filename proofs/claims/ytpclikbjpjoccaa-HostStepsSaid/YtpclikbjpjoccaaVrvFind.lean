/-
  ferryman/rv.find: all its ways, printed by a program of this repo.
-/
import Derived.Test.YtpclikbjpjoccaaBase
namespace Go.Proofs.Ytpclikbjpjoccaa
open Go.Sx
set_option linter.unusedVariables false
set_option linter.unusedSimpArgs false
set_option maxRecDepth 100000
set_option maxHeartbeats 20000000
@[reducible] def qrvFind (x : Nat) (n : Int) (v : Nat) (t f : LT) : LT := .nb [.setB0 x (.cmp .eql (.lit n) (.var v))] x t f
@[reducible] def drvFind : LT := .dead []
noncomputable def rvFindC : Ctx := ⟨tys, fns, (.e : Tr Sum)⟩
theorem rvFindC_ok : CtxT Try.prog phi rvFindC := ⟨tys_ok, fns_ok, SumsT.e, mix_ok⟩
noncomputable def rvFindR (ds : List D) : R (SV × St) := fnRun rvFindC 1000 20 70 (symArgs rvFindS.args 0) (st0 ds 3)
def rvFindT2_okD : List D := [.db false, .db false, .db false, .db false, .db false, .db false, .db false, .db false, .db false, .db false, .db false, .db false, .db false, .db false, .db false]
def rvFindT2_okE : List Ev := [.decB 17 false, .setB0 17 (.cmp .eql (.lit 3) (.var 0)), .decB 16 false, .setB0 16 (.cmp .eql (.lit 3) (.var 0)), .decB 15 false, .setB0 15 (.cmp .eql (.lit 3) (.var 0)), .decB 14 false, .setB0 14 (.cmp .eql (.lit 3) (.var 0)), .decB 13 false, .setB0 13 (.cmp .eql (.lit 3) (.var 0)), .decB 12 false, .setB0 12 (.cmp .eql (.lit 99) (.var 0)), .decB 11 false, .setB0 11 (.cmp .eql (.lit 99) (.var 0)), .decB 10 false, .setB0 10 (.cmp .eql (.lit 99) (.var 0)), .decB 9 false, .setB0 9 (.cmp .eql (.lit 99) (.var 0)), .decB 8 false, .setB0 8 (.cmp .eql (.lit 99) (.var 0)), .decB 7 false, .setB0 7 (.cmp .eql (.lit 99) (.var 0)), .decB 6 false, .setB0 6 (.cmp .eql (.lit 103) (.var 0)), .decB 5 false, .setB0 5 (.cmp .eql (.lit 111) (.var 0)), .decB 4 false, .setB0 4 (.cmp .eql (.lit 23) (.var 0)), .decB 3 false, .setB0 3 (.cmp .eql (.lit 55) (.var 0))]
def rvFindT0_okD : List D := (.db true :: .db false :: .db true :: .db false :: .db false :: .db false :: rvFindT2_okD)
def rvFindT0_okE : List Ev := (.decB 23 true :: .setB0 23 (.cmp .eql (.lit 19) (.var 0)) :: .decB 22 false :: .setB0 22 (.cmp .eql (.lit 0) (.var 1)) :: .decB 21 true :: .setB0 21 (.cmp .eql (.lit 19) (.var 0)) :: .decB 20 false :: .setB0 20 (.cmp .eql (.lit 35) (.var 0)) :: .decB 19 false :: .setB0 19 (.cmp .eql (.lit 35) (.var 0)) :: .decB 18 false :: .setB0 18 (.cmp .eql (.lit 35) (.var 0)) :: rvFindT2_okE)
def rvFindT1_okD : List D := (.db true :: .db false :: .db true :: .db false :: .db true :: .db false :: .db true :: .db false :: .db true :: .db false :: .db false :: .db false :: .db false :: .db false :: .db false :: .db false :: .db false :: .db false :: .db false :: .db false :: .db false :: rvFindT2_okD)
def rvFindT1_okE : List Ev := (.decB 38 true :: .setB0 38 (.cmp .eql (.lit 51) (.var 0)) :: .decB 37 false :: .setB0 37 (.cmp .eql (.lit 2) (.var 1)) :: .decB 36 true :: .setB0 36 (.cmp .eql (.lit 51) (.var 0)) :: .decB 35 false :: .setB0 35 (.cmp .eql (.lit 1) (.var 1)) :: .decB 34 true :: .setB0 34 (.cmp .eql (.lit 51) (.var 0)) :: .decB 33 false :: .setB0 33 (.cmp .eql (.lit 0) (.var 1)) :: .decB 32 true :: .setB0 32 (.cmp .eql (.lit 51) (.var 0)) :: .decB 31 false :: .setB0 31 (.cmp .eql (.lit 0) (.var 1)) :: .decB 30 true :: .setB0 30 (.cmp .eql (.lit 51) (.var 0)) :: .decB 29 false :: .setB0 29 (.cmp .eql (.lit 19) (.var 0)) :: .decB 28 false :: .setB0 28 (.cmp .eql (.lit 19) (.var 0)) :: .decB 27 false :: .setB0 27 (.cmp .eql (.lit 19) (.var 0)) :: .decB 26 false :: .setB0 26 (.cmp .eql (.lit 19) (.var 0)) :: .decB 25 false :: .setB0 25 (.cmp .eql (.lit 19) (.var 0)) :: .decB 24 false :: .setB0 24 (.cmp .eql (.lit 19) (.var 0)) :: .decB 23 false :: .setB0 23 (.cmp .eql (.lit 19) (.var 0)) :: .decB 22 false :: .setB0 22 (.cmp .eql (.lit 19) (.var 0)) :: .decB 21 false :: .setB0 21 (.cmp .eql (.lit 19) (.var 0)) :: .decB 20 false :: .setB0 20 (.cmp .eql (.lit 35) (.var 0)) :: .decB 19 false :: .setB0 19 (.cmp .eql (.lit 35) (.var 0)) :: .decB 18 false :: .setB0 18 (.cmp .eql (.lit 35) (.var 0)) :: rvFindT2_okE)
noncomputable def rvFindT0 : LT :=
 (qrvFind 24 2 1
 (qrvFind 25 19 0
 (qrvFind 26 3 1
 drvFind
 (qrvFind 27 19 0
 (qrvFind 28 4 1
 drvFind
 (qrvFind 29 19 0
 (qrvFind 30 6 1
 drvFind
 (qrvFind 31 19 0
 (qrvFind 32 7 1
 drvFind
 (qrvFind 33 19 0
 (qrvFind 34 1 1
 drvFind
 (qrvFind 35 19 0
 (qrvFind 36 5 1
 drvFind
 (qrvFind 37 19 0
 (qrvFind 38 5 1
 drvFind
 (qrvFind 39 51 0
 drvFind
 (qrvFind 40 51 0
 drvFind
 (qrvFind 41 51 0
 drvFind
 (qrvFind 42 51 0
 drvFind
 (qrvFind 43 51 0
 drvFind
 (qrvFind 44 51 0
 drvFind
 (qrvFind 45 51 0
 drvFind
 (qrvFind 46 51 0
 drvFind
 (qrvFind 47 51 0
 drvFind
 (qrvFind 48 51 0
 drvFind
 (qrvFind 49 51 0
 drvFind
 (qrvFind 50 51 0
 drvFind
 (qrvFind 51 51 0
 drvFind
 (qrvFind 52 51 0
 drvFind
 (qrvFind 53 51 0
 drvFind
 (qrvFind 54 51 0
 drvFind
 (qrvFind 55 51 0
 drvFind
 (qrvFind 56 51 0
 drvFind
 (.nb [.setB0 57 (.all [(.ii (.var 0) (.lit 19)), (.ii (.var 1) (.lit 2)), (.ii (.var 2) (.lit 0))])] 57
 (.leaf [] (.w (.c (.lit (.int .i64 20)))))
 (.leaf [] (.w (.c (.lit (.int .i64 0)))))))))))))))))))))))))
 drvFind))
 drvFind))
 drvFind))
 drvFind))
 drvFind))
 drvFind))
 drvFind)
 (qrvFind 25 19 0
 (qrvFind 26 3 1
 (qrvFind 27 19 0
 (qrvFind 28 4 1
 drvFind
 (qrvFind 29 19 0
 (qrvFind 30 6 1
 drvFind
 (qrvFind 31 19 0
 (qrvFind 32 7 1
 drvFind
 (qrvFind 33 19 0
 (qrvFind 34 1 1
 drvFind
 (qrvFind 35 19 0
 (qrvFind 36 5 1
 drvFind
 (qrvFind 37 19 0
 (qrvFind 38 5 1
 drvFind
 (qrvFind 39 51 0
 drvFind
 (qrvFind 40 51 0
 drvFind
 (qrvFind 41 51 0
 drvFind
 (qrvFind 42 51 0
 drvFind
 (qrvFind 43 51 0
 drvFind
 (qrvFind 44 51 0
 drvFind
 (qrvFind 45 51 0
 drvFind
 (qrvFind 46 51 0
 drvFind
 (qrvFind 47 51 0
 drvFind
 (qrvFind 48 51 0
 drvFind
 (qrvFind 49 51 0
 drvFind
 (qrvFind 50 51 0
 drvFind
 (qrvFind 51 51 0
 drvFind
 (qrvFind 52 51 0
 drvFind
 (qrvFind 53 51 0
 drvFind
 (qrvFind 54 51 0
 drvFind
 (qrvFind 55 51 0
 drvFind
 (qrvFind 56 51 0
 drvFind
 (.nb [.setB0 57 (.all [(.ii (.var 0) (.lit 19)), (.ii (.var 1) (.lit 3)), (.ii (.var 2) (.lit 0))])] 57
 (.leaf [] (.w (.c (.lit (.int .i64 21)))))
 (.leaf [] (.w (.c (.lit (.int .i64 0)))))))))))))))))))))))))
 drvFind))
 drvFind))
 drvFind))
 drvFind))
 drvFind))
 drvFind)
 (qrvFind 27 19 0
 (qrvFind 28 4 1
 (qrvFind 29 19 0
 (qrvFind 30 6 1
 drvFind
 (qrvFind 31 19 0
 (qrvFind 32 7 1
 drvFind
 (qrvFind 33 19 0
 (qrvFind 34 1 1
 drvFind
 (qrvFind 35 19 0
 (qrvFind 36 5 1
 drvFind
 (qrvFind 37 19 0
 (qrvFind 38 5 1
 drvFind
 (qrvFind 39 51 0
 drvFind
 (qrvFind 40 51 0
 drvFind
 (qrvFind 41 51 0
 drvFind
 (qrvFind 42 51 0
 drvFind
 (qrvFind 43 51 0
 drvFind
 (qrvFind 44 51 0
 drvFind
 (qrvFind 45 51 0
 drvFind
 (qrvFind 46 51 0
 drvFind
 (qrvFind 47 51 0
 drvFind
 (qrvFind 48 51 0
 drvFind
 (qrvFind 49 51 0
 drvFind
 (qrvFind 50 51 0
 drvFind
 (qrvFind 51 51 0
 drvFind
 (qrvFind 52 51 0
 drvFind
 (qrvFind 53 51 0
 drvFind
 (qrvFind 54 51 0
 drvFind
 (qrvFind 55 51 0
 drvFind
 (qrvFind 56 51 0
 drvFind
 (.nb [.setB0 57 (.all [(.ii (.var 0) (.lit 19)), (.ii (.var 1) (.lit 4)), (.ii (.var 2) (.lit 0))])] 57
 (.leaf [] (.w (.c (.lit (.int .i64 22)))))
 (.leaf [] (.w (.c (.lit (.int .i64 0)))))))))))))))))))))))))
 drvFind))
 drvFind))
 drvFind))
 drvFind))
 drvFind)
 (qrvFind 29 19 0
 (qrvFind 30 6 1
 (qrvFind 31 19 0
 (qrvFind 32 7 1
 drvFind
 (qrvFind 33 19 0
 (qrvFind 34 1 1
 drvFind
 (qrvFind 35 19 0
 (qrvFind 36 5 1
 drvFind
 (qrvFind 37 19 0
 (qrvFind 38 5 1
 drvFind
 (qrvFind 39 51 0
 drvFind
 (qrvFind 40 51 0
 drvFind
 (qrvFind 41 51 0
 drvFind
 (qrvFind 42 51 0
 drvFind
 (qrvFind 43 51 0
 drvFind
 (qrvFind 44 51 0
 drvFind
 (qrvFind 45 51 0
 drvFind
 (qrvFind 46 51 0
 drvFind
 (qrvFind 47 51 0
 drvFind
 (qrvFind 48 51 0
 drvFind
 (qrvFind 49 51 0
 drvFind
 (qrvFind 50 51 0
 drvFind
 (qrvFind 51 51 0
 drvFind
 (qrvFind 52 51 0
 drvFind
 (qrvFind 53 51 0
 drvFind
 (qrvFind 54 51 0
 drvFind
 (qrvFind 55 51 0
 drvFind
 (qrvFind 56 51 0
 drvFind
 (.nb [.setB0 57 (.all [(.ii (.var 0) (.lit 19)), (.ii (.var 1) (.lit 6)), (.ii (.var 2) (.lit 0))])] 57
 (.leaf [] (.w (.c (.lit (.int .i64 23)))))
 (.leaf [] (.w (.c (.lit (.int .i64 0)))))))))))))))))))))))))
 drvFind))
 drvFind))
 drvFind))
 drvFind)
 (qrvFind 31 19 0
 (qrvFind 32 7 1
 (qrvFind 33 19 0
 (qrvFind 34 1 1
 drvFind
 (qrvFind 35 19 0
 (qrvFind 36 5 1
 drvFind
 (qrvFind 37 19 0
 (qrvFind 38 5 1
 drvFind
 (qrvFind 39 51 0
 drvFind
 (qrvFind 40 51 0
 drvFind
 (qrvFind 41 51 0
 drvFind
 (qrvFind 42 51 0
 drvFind
 (qrvFind 43 51 0
 drvFind
 (qrvFind 44 51 0
 drvFind
 (qrvFind 45 51 0
 drvFind
 (qrvFind 46 51 0
 drvFind
 (qrvFind 47 51 0
 drvFind
 (qrvFind 48 51 0
 drvFind
 (qrvFind 49 51 0
 drvFind
 (qrvFind 50 51 0
 drvFind
 (qrvFind 51 51 0
 drvFind
 (qrvFind 52 51 0
 drvFind
 (qrvFind 53 51 0
 drvFind
 (qrvFind 54 51 0
 drvFind
 (qrvFind 55 51 0
 drvFind
 (qrvFind 56 51 0
 drvFind
 (.nb [.setB0 57 (.all [(.ii (.var 0) (.lit 19)), (.ii (.var 1) (.lit 7)), (.ii (.var 2) (.lit 0))])] 57
 (.leaf [] (.w (.c (.lit (.int .i64 24)))))
 (.leaf [] (.w (.c (.lit (.int .i64 0)))))))))))))))))))))))))
 drvFind))
 drvFind))
 drvFind)
 (qrvFind 33 19 0
 (qrvFind 34 1 1
 (qrvFind 35 19 0
 (qrvFind 36 5 1
 drvFind
 (qrvFind 37 19 0
 (qrvFind 38 5 1
 drvFind
 (qrvFind 39 51 0
 drvFind
 (qrvFind 40 51 0
 drvFind
 (qrvFind 41 51 0
 drvFind
 (qrvFind 42 51 0
 drvFind
 (qrvFind 43 51 0
 drvFind
 (qrvFind 44 51 0
 drvFind
 (qrvFind 45 51 0
 drvFind
 (qrvFind 46 51 0
 drvFind
 (qrvFind 47 51 0
 drvFind
 (qrvFind 48 51 0
 drvFind
 (qrvFind 49 51 0
 drvFind
 (qrvFind 50 51 0
 drvFind
 (qrvFind 51 51 0
 drvFind
 (qrvFind 52 51 0
 drvFind
 (qrvFind 53 51 0
 drvFind
 (qrvFind 54 51 0
 drvFind
 (qrvFind 55 51 0
 drvFind
 (qrvFind 56 51 0
 drvFind
 (.nb [.setB0 57 (.all [(.ii (.var 0) (.lit 19)), (.ii (.var 1) (.lit 1)), (.ii (.var 2) (.lit 0))])] 57
 (.leaf [] (.w (.c (.lit (.int .i64 25)))))
 (.leaf [] (.w (.c (.lit (.int .i64 0)))))))))))))))))))))))))
 drvFind))
 drvFind)
 (qrvFind 35 19 0
 (qrvFind 36 5 1
 (qrvFind 37 19 0
 (qrvFind 38 5 1
 (qrvFind 39 51 0
 drvFind
 (qrvFind 40 51 0
 drvFind
 (qrvFind 41 51 0
 drvFind
 (qrvFind 42 51 0
 drvFind
 (qrvFind 43 51 0
 drvFind
 (qrvFind 44 51 0
 drvFind
 (qrvFind 45 51 0
 drvFind
 (qrvFind 46 51 0
 drvFind
 (qrvFind 47 51 0
 drvFind
 (qrvFind 48 51 0
 drvFind
 (qrvFind 49 51 0
 drvFind
 (qrvFind 50 51 0
 drvFind
 (qrvFind 51 51 0
 drvFind
 (qrvFind 52 51 0
 drvFind
 (qrvFind 53 51 0
 drvFind
 (qrvFind 54 51 0
 drvFind
 (qrvFind 55 51 0
 drvFind
 (qrvFind 56 51 0
 drvFind
 (.nb [.setB0 57 (.all [(.ii (.var 0) (.lit 19)), (.ii (.var 1) (.lit 5)), (.ii (.var 2) (.lit 0))])] 57
 (.leaf [] (.w (.c (.lit (.int .i64 26)))))
 (.nb [.setB0 58 (.all [(.ii (.var 0) (.lit 19)), (.ii (.var 1) (.lit 5)), (.ii (.var 2) (.lit 32))])] 58
 (.leaf [] (.w (.c (.lit (.int .i64 27)))))
 (.leaf [] (.w (.c (.lit (.int .i64 0)))))))))))))))))))))))))
 drvFind)
 drvFind)
 (qrvFind 37 19 0
 (qrvFind 38 5 1
 drvFind
 (qrvFind 39 51 0
 drvFind
 (qrvFind 40 51 0
 drvFind
 (qrvFind 41 51 0
 drvFind
 (qrvFind 42 51 0
 drvFind
 (qrvFind 43 51 0
 drvFind
 (qrvFind 44 51 0
 drvFind
 (qrvFind 45 51 0
 drvFind
 (qrvFind 46 51 0
 drvFind
 (qrvFind 47 51 0
 drvFind
 (qrvFind 48 51 0
 drvFind
 (qrvFind 49 51 0
 drvFind
 (qrvFind 50 51 0
 drvFind
 (qrvFind 51 51 0
 drvFind
 (qrvFind 52 51 0
 drvFind
 (qrvFind 53 51 0
 drvFind
 (qrvFind 54 51 0
 drvFind
 (qrvFind 55 51 0
 drvFind
 (qrvFind 56 51 0
 drvFind
 (.leaf [] (.w (.c (.lit (.int .i64 0))))))))))))))))))))))))
 drvFind))
 drvFind))
 drvFind))
 drvFind))
 drvFind))
 drvFind))
 drvFind))
theorem rvFindT0_ok : LT.Ok rvFindR rvFindT0 rvFindT0_okD rvFindT0_okE :=
 (LT.ok_nb (LT.ok_nb (LT.ok_nb LT.ok_dead
 (LT.ok_nb (LT.ok_nb LT.ok_dead
 (LT.ok_nb (LT.ok_nb LT.ok_dead
 (LT.ok_nb (LT.ok_nb LT.ok_dead
 (LT.ok_nb (LT.ok_nb LT.ok_dead
 (LT.ok_nb (LT.ok_nb LT.ok_dead
 (LT.ok_nb (LT.ok_nb LT.ok_dead
 (LT.ok_nb LT.ok_dead
 (LT.ok_nb LT.ok_dead
 (LT.ok_nb LT.ok_dead
 (LT.ok_nb LT.ok_dead
 (LT.ok_nb LT.ok_dead
 (LT.ok_nb LT.ok_dead
 (LT.ok_nb LT.ok_dead
 (LT.ok_nb LT.ok_dead
 (LT.ok_nb LT.ok_dead
 (LT.ok_nb LT.ok_dead
 (LT.ok_nb LT.ok_dead
 (LT.ok_nb LT.ok_dead
 (LT.ok_nb LT.ok_dead
 (LT.ok_nb LT.ok_dead
 (LT.ok_nb LT.ok_dead
 (LT.ok_nb LT.ok_dead
 (LT.ok_nb LT.ok_dead
 (LT.ok_nb LT.ok_dead
 (LT.ok_nb (LT.ok_leaf (by kernel_rfl))
 (LT.ok_leaf (by kernel_rfl))))))))))))))))))))))
 LT.ok_dead))
 LT.ok_dead))
 LT.ok_dead))
 LT.ok_dead))
 LT.ok_dead))
 LT.ok_dead))
 LT.ok_dead)
 (LT.ok_nb (LT.ok_nb (LT.ok_nb (LT.ok_nb LT.ok_dead
 (LT.ok_nb (LT.ok_nb LT.ok_dead
 (LT.ok_nb (LT.ok_nb LT.ok_dead
 (LT.ok_nb (LT.ok_nb LT.ok_dead
 (LT.ok_nb (LT.ok_nb LT.ok_dead
 (LT.ok_nb (LT.ok_nb LT.ok_dead
 (LT.ok_nb LT.ok_dead
 (LT.ok_nb LT.ok_dead
 (LT.ok_nb LT.ok_dead
 (LT.ok_nb LT.ok_dead
 (LT.ok_nb LT.ok_dead
 (LT.ok_nb LT.ok_dead
 (LT.ok_nb LT.ok_dead
 (LT.ok_nb LT.ok_dead
 (LT.ok_nb LT.ok_dead
 (LT.ok_nb LT.ok_dead
 (LT.ok_nb LT.ok_dead
 (LT.ok_nb LT.ok_dead
 (LT.ok_nb LT.ok_dead
 (LT.ok_nb LT.ok_dead
 (LT.ok_nb LT.ok_dead
 (LT.ok_nb LT.ok_dead
 (LT.ok_nb LT.ok_dead
 (LT.ok_nb LT.ok_dead
 (LT.ok_nb (LT.ok_leaf (by kernel_rfl))
 (LT.ok_leaf (by kernel_rfl))))))))))))))))))))))
 LT.ok_dead))
 LT.ok_dead))
 LT.ok_dead))
 LT.ok_dead))
 LT.ok_dead))
 LT.ok_dead)
 (LT.ok_nb (LT.ok_nb (LT.ok_nb (LT.ok_nb LT.ok_dead
 (LT.ok_nb (LT.ok_nb LT.ok_dead
 (LT.ok_nb (LT.ok_nb LT.ok_dead
 (LT.ok_nb (LT.ok_nb LT.ok_dead
 (LT.ok_nb (LT.ok_nb LT.ok_dead
 (LT.ok_nb LT.ok_dead
 (LT.ok_nb LT.ok_dead
 (LT.ok_nb LT.ok_dead
 (LT.ok_nb LT.ok_dead
 (LT.ok_nb LT.ok_dead
 (LT.ok_nb LT.ok_dead
 (LT.ok_nb LT.ok_dead
 (LT.ok_nb LT.ok_dead
 (LT.ok_nb LT.ok_dead
 (LT.ok_nb LT.ok_dead
 (LT.ok_nb LT.ok_dead
 (LT.ok_nb LT.ok_dead
 (LT.ok_nb LT.ok_dead
 (LT.ok_nb LT.ok_dead
 (LT.ok_nb LT.ok_dead
 (LT.ok_nb LT.ok_dead
 (LT.ok_nb LT.ok_dead
 (LT.ok_nb LT.ok_dead
 (LT.ok_nb (LT.ok_leaf (by kernel_rfl))
 (LT.ok_leaf (by kernel_rfl))))))))))))))))))))))
 LT.ok_dead))
 LT.ok_dead))
 LT.ok_dead))
 LT.ok_dead))
 LT.ok_dead)
 (LT.ok_nb (LT.ok_nb (LT.ok_nb (LT.ok_nb LT.ok_dead
 (LT.ok_nb (LT.ok_nb LT.ok_dead
 (LT.ok_nb (LT.ok_nb LT.ok_dead
 (LT.ok_nb (LT.ok_nb LT.ok_dead
 (LT.ok_nb LT.ok_dead
 (LT.ok_nb LT.ok_dead
 (LT.ok_nb LT.ok_dead
 (LT.ok_nb LT.ok_dead
 (LT.ok_nb LT.ok_dead
 (LT.ok_nb LT.ok_dead
 (LT.ok_nb LT.ok_dead
 (LT.ok_nb LT.ok_dead
 (LT.ok_nb LT.ok_dead
 (LT.ok_nb LT.ok_dead
 (LT.ok_nb LT.ok_dead
 (LT.ok_nb LT.ok_dead
 (LT.ok_nb LT.ok_dead
 (LT.ok_nb LT.ok_dead
 (LT.ok_nb LT.ok_dead
 (LT.ok_nb LT.ok_dead
 (LT.ok_nb LT.ok_dead
 (LT.ok_nb LT.ok_dead
 (LT.ok_nb (LT.ok_leaf (by kernel_rfl))
 (LT.ok_leaf (by kernel_rfl))))))))))))))))))))))
 LT.ok_dead))
 LT.ok_dead))
 LT.ok_dead))
 LT.ok_dead)
 (LT.ok_nb (LT.ok_nb (LT.ok_nb (LT.ok_nb LT.ok_dead
 (LT.ok_nb (LT.ok_nb LT.ok_dead
 (LT.ok_nb (LT.ok_nb LT.ok_dead
 (LT.ok_nb LT.ok_dead
 (LT.ok_nb LT.ok_dead
 (LT.ok_nb LT.ok_dead
 (LT.ok_nb LT.ok_dead
 (LT.ok_nb LT.ok_dead
 (LT.ok_nb LT.ok_dead
 (LT.ok_nb LT.ok_dead
 (LT.ok_nb LT.ok_dead
 (LT.ok_nb LT.ok_dead
 (LT.ok_nb LT.ok_dead
 (LT.ok_nb LT.ok_dead
 (LT.ok_nb LT.ok_dead
 (LT.ok_nb LT.ok_dead
 (LT.ok_nb LT.ok_dead
 (LT.ok_nb LT.ok_dead
 (LT.ok_nb LT.ok_dead
 (LT.ok_nb LT.ok_dead
 (LT.ok_nb LT.ok_dead
 (LT.ok_nb (LT.ok_leaf (by kernel_rfl))
 (LT.ok_leaf (by kernel_rfl))))))))))))))))))))))
 LT.ok_dead))
 LT.ok_dead))
 LT.ok_dead)
 (LT.ok_nb (LT.ok_nb (LT.ok_nb (LT.ok_nb LT.ok_dead
 (LT.ok_nb (LT.ok_nb LT.ok_dead
 (LT.ok_nb LT.ok_dead
 (LT.ok_nb LT.ok_dead
 (LT.ok_nb LT.ok_dead
 (LT.ok_nb LT.ok_dead
 (LT.ok_nb LT.ok_dead
 (LT.ok_nb LT.ok_dead
 (LT.ok_nb LT.ok_dead
 (LT.ok_nb LT.ok_dead
 (LT.ok_nb LT.ok_dead
 (LT.ok_nb LT.ok_dead
 (LT.ok_nb LT.ok_dead
 (LT.ok_nb LT.ok_dead
 (LT.ok_nb LT.ok_dead
 (LT.ok_nb LT.ok_dead
 (LT.ok_nb LT.ok_dead
 (LT.ok_nb LT.ok_dead
 (LT.ok_nb LT.ok_dead
 (LT.ok_nb LT.ok_dead
 (LT.ok_nb (LT.ok_leaf (by kernel_rfl))
 (LT.ok_leaf (by kernel_rfl))))))))))))))))))))))
 LT.ok_dead))
 LT.ok_dead)
 (LT.ok_nb (LT.ok_nb (LT.ok_nb (LT.ok_nb (LT.ok_nb LT.ok_dead
 (LT.ok_nb LT.ok_dead
 (LT.ok_nb LT.ok_dead
 (LT.ok_nb LT.ok_dead
 (LT.ok_nb LT.ok_dead
 (LT.ok_nb LT.ok_dead
 (LT.ok_nb LT.ok_dead
 (LT.ok_nb LT.ok_dead
 (LT.ok_nb LT.ok_dead
 (LT.ok_nb LT.ok_dead
 (LT.ok_nb LT.ok_dead
 (LT.ok_nb LT.ok_dead
 (LT.ok_nb LT.ok_dead
 (LT.ok_nb LT.ok_dead
 (LT.ok_nb LT.ok_dead
 (LT.ok_nb LT.ok_dead
 (LT.ok_nb LT.ok_dead
 (LT.ok_nb LT.ok_dead
 (LT.ok_nb (LT.ok_leaf (by kernel_rfl))
 (LT.ok_nb (LT.ok_leaf (by kernel_rfl))
 (LT.ok_leaf (by kernel_rfl))))))))))))))))))))))
 LT.ok_dead)
 LT.ok_dead)
 (LT.ok_nb (LT.ok_nb LT.ok_dead
 (LT.ok_nb LT.ok_dead
 (LT.ok_nb LT.ok_dead
 (LT.ok_nb LT.ok_dead
 (LT.ok_nb LT.ok_dead
 (LT.ok_nb LT.ok_dead
 (LT.ok_nb LT.ok_dead
 (LT.ok_nb LT.ok_dead
 (LT.ok_nb LT.ok_dead
 (LT.ok_nb LT.ok_dead
 (LT.ok_nb LT.ok_dead
 (LT.ok_nb LT.ok_dead
 (LT.ok_nb LT.ok_dead
 (LT.ok_nb LT.ok_dead
 (LT.ok_nb LT.ok_dead
 (LT.ok_nb LT.ok_dead
 (LT.ok_nb LT.ok_dead
 (LT.ok_nb LT.ok_dead
 (LT.ok_nb LT.ok_dead
 (LT.ok_leaf (by kernel_rfl)))))))))))))))))))))
 LT.ok_dead))
 LT.ok_dead))
 LT.ok_dead))
 LT.ok_dead))
 LT.ok_dead))
 LT.ok_dead))
 LT.ok_dead))
noncomputable def rvFindT1 : LT :=
 (qrvFind 39 3 1
 (qrvFind 40 51 0
 (qrvFind 41 4 1
 drvFind
 (qrvFind 42 51 0
 (qrvFind 43 5 1
 drvFind
 (qrvFind 44 51 0
 (qrvFind 45 5 1
 drvFind
 (qrvFind 46 51 0
 (qrvFind 47 6 1
 drvFind
 (qrvFind 48 51 0
 (qrvFind 49 7 1
 drvFind
 (qrvFind 50 51 0
 (qrvFind 51 0 1
 drvFind
 (qrvFind 52 51 0
 (qrvFind 53 1 1
 drvFind
 (qrvFind 54 51 0
 (qrvFind 55 2 1
 drvFind
 (qrvFind 56 51 0
 (qrvFind 57 3 1
 (qrvFind 58 51 0
 (qrvFind 59 4 1
 drvFind
 (qrvFind 60 51 0
 (qrvFind 61 5 1
 drvFind
 (qrvFind 62 51 0
 (qrvFind 63 6 1
 drvFind
 (qrvFind 64 51 0
 (qrvFind 65 7 1
 drvFind
 (.nb [.setB0 66 (.all [(.ii (.var 0) (.lit 51)), (.ii (.var 1) (.lit 3)), (.ii (.var 2) (.lit 0))])] 66
 (.leaf [] (.w (.c (.lit (.int .i64 32)))))
 (.nb [.setB0 67 (.all [(.ii (.var 0) (.lit 51)), (.ii (.var 1) (.lit 3)), (.ii (.var 2) (.lit 1))])] 67
 (.leaf [] (.w (.c (.lit (.int .i64 41)))))
 (.leaf [] (.w (.c (.lit (.int .i64 0))))))))
 drvFind))
 drvFind))
 drvFind))
 drvFind)
 drvFind)
 drvFind))
 drvFind))
 drvFind))
 drvFind))
 drvFind))
 drvFind))
 drvFind))
 drvFind))
 drvFind)
 (qrvFind 40 51 0
 (qrvFind 41 4 1
 (qrvFind 42 51 0
 (qrvFind 43 5 1
 drvFind
 (qrvFind 44 51 0
 (qrvFind 45 5 1
 drvFind
 (qrvFind 46 51 0
 (qrvFind 47 6 1
 drvFind
 (qrvFind 48 51 0
 (qrvFind 49 7 1
 drvFind
 (qrvFind 50 51 0
 (qrvFind 51 0 1
 drvFind
 (qrvFind 52 51 0
 (qrvFind 53 1 1
 drvFind
 (qrvFind 54 51 0
 (qrvFind 55 2 1
 drvFind
 (qrvFind 56 51 0
 (qrvFind 57 3 1
 drvFind
 (qrvFind 58 51 0
 (qrvFind 59 4 1
 (qrvFind 60 51 0
 (qrvFind 61 5 1
 drvFind
 (qrvFind 62 51 0
 (qrvFind 63 6 1
 drvFind
 (qrvFind 64 51 0
 (qrvFind 65 7 1
 drvFind
 (.nb [.setB0 66 (.all [(.ii (.var 0) (.lit 51)), (.ii (.var 1) (.lit 4)), (.ii (.var 2) (.lit 0))])] 66
 (.leaf [] (.w (.c (.lit (.int .i64 33)))))
 (.nb [.setB0 67 (.all [(.ii (.var 0) (.lit 51)), (.ii (.var 1) (.lit 4)), (.ii (.var 2) (.lit 1))])] 67
 (.leaf [] (.w (.c (.lit (.int .i64 42)))))
 (.leaf [] (.w (.c (.lit (.int .i64 0))))))))
 drvFind))
 drvFind))
 drvFind)
 drvFind)
 drvFind))
 drvFind))
 drvFind))
 drvFind))
 drvFind))
 drvFind))
 drvFind))
 drvFind))
 drvFind)
 (qrvFind 42 51 0
 (qrvFind 43 5 1
 (qrvFind 44 51 0
 (qrvFind 45 5 1
 (qrvFind 46 51 0
 (qrvFind 47 6 1
 drvFind
 (qrvFind 48 51 0
 (qrvFind 49 7 1
 drvFind
 (qrvFind 50 51 0
 (qrvFind 51 0 1
 drvFind
 (qrvFind 52 51 0
 (qrvFind 53 1 1
 drvFind
 (qrvFind 54 51 0
 (qrvFind 55 2 1
 drvFind
 (qrvFind 56 51 0
 (qrvFind 57 3 1
 drvFind
 (qrvFind 58 51 0
 (qrvFind 59 4 1
 drvFind
 (qrvFind 60 51 0
 (qrvFind 61 5 1
 (qrvFind 62 51 0
 (qrvFind 63 6 1
 drvFind
 (qrvFind 64 51 0
 (qrvFind 65 7 1
 drvFind
 (.nb [.setB0 66 (.all [(.ii (.var 0) (.lit 51)), (.ii (.var 1) (.lit 5)), (.ii (.var 2) (.lit 0))])] 66
 (.leaf [] (.w (.c (.lit (.int .i64 34)))))
 (.nb [.setB0 67 (.all [(.ii (.var 0) (.lit 51)), (.ii (.var 1) (.lit 5)), (.ii (.var 2) (.lit 32))])] 67
 (.leaf [] (.w (.c (.lit (.int .i64 35)))))
 (.nb [.setB0 68 (.all [(.ii (.var 0) (.lit 51)), (.ii (.var 1) (.lit 5)), (.ii (.var 2) (.lit 1))])] 68
 (.leaf [] (.w (.c (.lit (.int .i64 43)))))
 (.leaf [] (.w (.c (.lit (.int .i64 0)))))))))
 drvFind))
 drvFind)
 drvFind)
 drvFind))
 drvFind))
 drvFind))
 drvFind))
 drvFind))
 drvFind))
 drvFind))
 drvFind)
 drvFind)
 drvFind)
 (qrvFind 44 51 0
 (qrvFind 45 5 1
 drvFind
 (qrvFind 46 51 0
 (qrvFind 47 6 1
 (qrvFind 48 51 0
 (qrvFind 49 7 1
 drvFind
 (qrvFind 50 51 0
 (qrvFind 51 0 1
 drvFind
 (qrvFind 52 51 0
 (qrvFind 53 1 1
 drvFind
 (qrvFind 54 51 0
 (qrvFind 55 2 1
 drvFind
 (qrvFind 56 51 0
 (qrvFind 57 3 1
 drvFind
 (qrvFind 58 51 0
 (qrvFind 59 4 1
 drvFind
 (qrvFind 60 51 0
 (qrvFind 61 5 1
 drvFind
 (qrvFind 62 51 0
 (qrvFind 63 6 1
 (qrvFind 64 51 0
 (qrvFind 65 7 1
 drvFind
 (.nb [.setB0 66 (.all [(.ii (.var 0) (.lit 51)), (.ii (.var 1) (.lit 6)), (.ii (.var 2) (.lit 0))])] 66
 (.leaf [] (.w (.c (.lit (.int .i64 36)))))
 (.nb [.setB0 67 (.all [(.ii (.var 0) (.lit 51)), (.ii (.var 1) (.lit 6)), (.ii (.var 2) (.lit 1))])] 67
 (.leaf [] (.w (.c (.lit (.int .i64 44)))))
 (.leaf [] (.w (.c (.lit (.int .i64 0))))))))
 drvFind)
 drvFind)
 drvFind))
 drvFind))
 drvFind))
 drvFind))
 drvFind))
 drvFind))
 drvFind))
 drvFind)
 (qrvFind 48 51 0
 (qrvFind 49 7 1
 (qrvFind 50 51 0
 (qrvFind 51 0 1
 drvFind
 (qrvFind 52 51 0
 (qrvFind 53 1 1
 drvFind
 (qrvFind 54 51 0
 (qrvFind 55 2 1
 drvFind
 (qrvFind 56 51 0
 (qrvFind 57 3 1
 drvFind
 (qrvFind 58 51 0
 (qrvFind 59 4 1
 drvFind
 (qrvFind 60 51 0
 (qrvFind 61 5 1
 drvFind
 (qrvFind 62 51 0
 (qrvFind 63 6 1
 drvFind
 (qrvFind 64 51 0
 (qrvFind 65 7 1
 (.nb [.setB0 66 (.all [(.ii (.var 0) (.lit 51)), (.ii (.var 1) (.lit 7)), (.ii (.var 2) (.lit 0))])] 66
 (.leaf [] (.w (.c (.lit (.int .i64 37)))))
 (.nb [.setB0 67 (.all [(.ii (.var 0) (.lit 51)), (.ii (.var 1) (.lit 7)), (.ii (.var 2) (.lit 1))])] 67
 (.leaf [] (.w (.c (.lit (.int .i64 45)))))
 (.leaf [] (.w (.c (.lit (.int .i64 0)))))))
 drvFind)
 drvFind))
 drvFind))
 drvFind))
 drvFind))
 drvFind))
 drvFind))
 drvFind))
 drvFind)
 (qrvFind 50 51 0
 (qrvFind 51 0 1
 drvFind
 (qrvFind 52 51 0
 (qrvFind 53 1 1
 drvFind
 (qrvFind 54 51 0
 (qrvFind 55 2 1
 drvFind
 (qrvFind 56 51 0
 (qrvFind 57 3 1
 drvFind
 (qrvFind 58 51 0
 (qrvFind 59 4 1
 drvFind
 (qrvFind 60 51 0
 (qrvFind 61 5 1
 drvFind
 (qrvFind 62 51 0
 (qrvFind 63 6 1
 drvFind
 (qrvFind 64 51 0
 (qrvFind 65 7 1
 drvFind
 (.leaf [] (.w (.c (.lit (.int .i64 0))))))
 drvFind))
 drvFind))
 drvFind))
 drvFind))
 drvFind))
 drvFind))
 drvFind))
 drvFind))
 drvFind))
 drvFind))
 drvFind))
 drvFind))
 drvFind))
theorem rvFindT1_ok : LT.Ok rvFindR rvFindT1 rvFindT1_okD rvFindT1_okE :=
 (LT.ok_nb (LT.ok_nb (LT.ok_nb LT.ok_dead
 (LT.ok_nb (LT.ok_nb LT.ok_dead
 (LT.ok_nb (LT.ok_nb LT.ok_dead
 (LT.ok_nb (LT.ok_nb LT.ok_dead
 (LT.ok_nb (LT.ok_nb LT.ok_dead
 (LT.ok_nb (LT.ok_nb LT.ok_dead
 (LT.ok_nb (LT.ok_nb LT.ok_dead
 (LT.ok_nb (LT.ok_nb LT.ok_dead
 (LT.ok_nb (LT.ok_nb (LT.ok_nb (LT.ok_nb LT.ok_dead
 (LT.ok_nb (LT.ok_nb LT.ok_dead
 (LT.ok_nb (LT.ok_nb LT.ok_dead
 (LT.ok_nb (LT.ok_nb LT.ok_dead
 (LT.ok_nb (LT.ok_leaf (by kernel_rfl))
 (LT.ok_nb (LT.ok_leaf (by kernel_rfl))
 (LT.ok_leaf (by kernel_rfl)))))
 LT.ok_dead))
 LT.ok_dead))
 LT.ok_dead))
 LT.ok_dead)
 LT.ok_dead)
 LT.ok_dead))
 LT.ok_dead))
 LT.ok_dead))
 LT.ok_dead))
 LT.ok_dead))
 LT.ok_dead))
 LT.ok_dead))
 LT.ok_dead))
 LT.ok_dead)
 (LT.ok_nb (LT.ok_nb (LT.ok_nb (LT.ok_nb LT.ok_dead
 (LT.ok_nb (LT.ok_nb LT.ok_dead
 (LT.ok_nb (LT.ok_nb LT.ok_dead
 (LT.ok_nb (LT.ok_nb LT.ok_dead
 (LT.ok_nb (LT.ok_nb LT.ok_dead
 (LT.ok_nb (LT.ok_nb LT.ok_dead
 (LT.ok_nb (LT.ok_nb LT.ok_dead
 (LT.ok_nb (LT.ok_nb LT.ok_dead
 (LT.ok_nb (LT.ok_nb (LT.ok_nb (LT.ok_nb LT.ok_dead
 (LT.ok_nb (LT.ok_nb LT.ok_dead
 (LT.ok_nb (LT.ok_nb LT.ok_dead
 (LT.ok_nb (LT.ok_leaf (by kernel_rfl))
 (LT.ok_nb (LT.ok_leaf (by kernel_rfl))
 (LT.ok_leaf (by kernel_rfl)))))
 LT.ok_dead))
 LT.ok_dead))
 LT.ok_dead)
 LT.ok_dead)
 LT.ok_dead))
 LT.ok_dead))
 LT.ok_dead))
 LT.ok_dead))
 LT.ok_dead))
 LT.ok_dead))
 LT.ok_dead))
 LT.ok_dead))
 LT.ok_dead)
 (LT.ok_nb (LT.ok_nb (LT.ok_nb (LT.ok_nb (LT.ok_nb (LT.ok_nb LT.ok_dead
 (LT.ok_nb (LT.ok_nb LT.ok_dead
 (LT.ok_nb (LT.ok_nb LT.ok_dead
 (LT.ok_nb (LT.ok_nb LT.ok_dead
 (LT.ok_nb (LT.ok_nb LT.ok_dead
 (LT.ok_nb (LT.ok_nb LT.ok_dead
 (LT.ok_nb (LT.ok_nb LT.ok_dead
 (LT.ok_nb (LT.ok_nb (LT.ok_nb (LT.ok_nb LT.ok_dead
 (LT.ok_nb (LT.ok_nb LT.ok_dead
 (LT.ok_nb (LT.ok_leaf (by kernel_rfl))
 (LT.ok_nb (LT.ok_leaf (by kernel_rfl))
 (LT.ok_nb (LT.ok_leaf (by kernel_rfl))
 (LT.ok_leaf (by kernel_rfl))))))
 LT.ok_dead))
 LT.ok_dead)
 LT.ok_dead)
 LT.ok_dead))
 LT.ok_dead))
 LT.ok_dead))
 LT.ok_dead))
 LT.ok_dead))
 LT.ok_dead))
 LT.ok_dead))
 LT.ok_dead)
 LT.ok_dead)
 LT.ok_dead)
 (LT.ok_nb (LT.ok_nb LT.ok_dead
 (LT.ok_nb (LT.ok_nb (LT.ok_nb (LT.ok_nb LT.ok_dead
 (LT.ok_nb (LT.ok_nb LT.ok_dead
 (LT.ok_nb (LT.ok_nb LT.ok_dead
 (LT.ok_nb (LT.ok_nb LT.ok_dead
 (LT.ok_nb (LT.ok_nb LT.ok_dead
 (LT.ok_nb (LT.ok_nb LT.ok_dead
 (LT.ok_nb (LT.ok_nb LT.ok_dead
 (LT.ok_nb (LT.ok_nb (LT.ok_nb (LT.ok_nb LT.ok_dead
 (LT.ok_nb (LT.ok_leaf (by kernel_rfl))
 (LT.ok_nb (LT.ok_leaf (by kernel_rfl))
 (LT.ok_leaf (by kernel_rfl)))))
 LT.ok_dead)
 LT.ok_dead)
 LT.ok_dead))
 LT.ok_dead))
 LT.ok_dead))
 LT.ok_dead))
 LT.ok_dead))
 LT.ok_dead))
 LT.ok_dead))
 LT.ok_dead)
 (LT.ok_nb (LT.ok_nb (LT.ok_nb (LT.ok_nb LT.ok_dead
 (LT.ok_nb (LT.ok_nb LT.ok_dead
 (LT.ok_nb (LT.ok_nb LT.ok_dead
 (LT.ok_nb (LT.ok_nb LT.ok_dead
 (LT.ok_nb (LT.ok_nb LT.ok_dead
 (LT.ok_nb (LT.ok_nb LT.ok_dead
 (LT.ok_nb (LT.ok_nb LT.ok_dead
 (LT.ok_nb (LT.ok_nb (LT.ok_nb (LT.ok_leaf (by kernel_rfl))
 (LT.ok_nb (LT.ok_leaf (by kernel_rfl))
 (LT.ok_leaf (by kernel_rfl))))
 LT.ok_dead)
 LT.ok_dead))
 LT.ok_dead))
 LT.ok_dead))
 LT.ok_dead))
 LT.ok_dead))
 LT.ok_dead))
 LT.ok_dead))
 LT.ok_dead)
 (LT.ok_nb (LT.ok_nb LT.ok_dead
 (LT.ok_nb (LT.ok_nb LT.ok_dead
 (LT.ok_nb (LT.ok_nb LT.ok_dead
 (LT.ok_nb (LT.ok_nb LT.ok_dead
 (LT.ok_nb (LT.ok_nb LT.ok_dead
 (LT.ok_nb (LT.ok_nb LT.ok_dead
 (LT.ok_nb (LT.ok_nb LT.ok_dead
 (LT.ok_nb (LT.ok_nb LT.ok_dead
 (LT.ok_leaf (by kernel_rfl)))
 LT.ok_dead))
 LT.ok_dead))
 LT.ok_dead))
 LT.ok_dead))
 LT.ok_dead))
 LT.ok_dead))
 LT.ok_dead))
 LT.ok_dead))
 LT.ok_dead))
 LT.ok_dead))
 LT.ok_dead))
 LT.ok_dead))
 LT.ok_dead))
noncomputable def rvFindT2 : LT :=
 (qrvFind 18 35 0
 (qrvFind 19 0 1
 (qrvFind 20 35 0
 (qrvFind 21 1 1
 drvFind
 (qrvFind 22 35 0
 (qrvFind 23 2 1
 drvFind
 (qrvFind 24 19 0
 drvFind
 (qrvFind 25 19 0
 drvFind
 (qrvFind 26 19 0
 drvFind
 (qrvFind 27 19 0
 drvFind
 (qrvFind 28 19 0
 drvFind
 (qrvFind 29 19 0
 drvFind
 (qrvFind 30 19 0
 drvFind
 (qrvFind 31 19 0
 drvFind
 (qrvFind 32 19 0
 drvFind
 (qrvFind 33 51 0
 drvFind
 (qrvFind 34 51 0
 drvFind
 (qrvFind 35 51 0
 drvFind
 (qrvFind 36 51 0
 drvFind
 (qrvFind 37 51 0
 drvFind
 (qrvFind 38 51 0
 drvFind
 (qrvFind 39 51 0
 drvFind
 (qrvFind 40 51 0
 drvFind
 (qrvFind 41 51 0
 drvFind
 (qrvFind 42 51 0
 drvFind
 (qrvFind 43 51 0
 drvFind
 (qrvFind 44 51 0
 drvFind
 (qrvFind 45 51 0
 drvFind
 (qrvFind 46 51 0
 drvFind
 (qrvFind 47 51 0
 drvFind
 (qrvFind 48 51 0
 drvFind
 (qrvFind 49 51 0
 drvFind
 (qrvFind 50 51 0
 drvFind
 (.nb [.setB0 51 (.all [(.ii (.var 0) (.lit 35)), (.ii (.var 1) (.lit 0)), (.ii (.var 2) (.lit 0))])] 51
 (.leaf [] (.w (.c (.lit (.int .i64 16)))))
 (.leaf [] (.w (.c (.lit (.int .i64 0))))))))))))))))))))))))))))))))))
 drvFind))
 drvFind)
 (qrvFind 20 35 0
 (qrvFind 21 1 1
 (qrvFind 22 35 0
 (qrvFind 23 2 1
 drvFind
 (qrvFind 24 19 0
 drvFind
 (qrvFind 25 19 0
 drvFind
 (qrvFind 26 19 0
 drvFind
 (qrvFind 27 19 0
 drvFind
 (qrvFind 28 19 0
 drvFind
 (qrvFind 29 19 0
 drvFind
 (qrvFind 30 19 0
 drvFind
 (qrvFind 31 19 0
 drvFind
 (qrvFind 32 19 0
 drvFind
 (qrvFind 33 51 0
 drvFind
 (qrvFind 34 51 0
 drvFind
 (qrvFind 35 51 0
 drvFind
 (qrvFind 36 51 0
 drvFind
 (qrvFind 37 51 0
 drvFind
 (qrvFind 38 51 0
 drvFind
 (qrvFind 39 51 0
 drvFind
 (qrvFind 40 51 0
 drvFind
 (qrvFind 41 51 0
 drvFind
 (qrvFind 42 51 0
 drvFind
 (qrvFind 43 51 0
 drvFind
 (qrvFind 44 51 0
 drvFind
 (qrvFind 45 51 0
 drvFind
 (qrvFind 46 51 0
 drvFind
 (qrvFind 47 51 0
 drvFind
 (qrvFind 48 51 0
 drvFind
 (qrvFind 49 51 0
 drvFind
 (qrvFind 50 51 0
 drvFind
 (.nb [.setB0 51 (.all [(.ii (.var 0) (.lit 35)), (.ii (.var 1) (.lit 1)), (.ii (.var 2) (.lit 0))])] 51
 (.leaf [] (.w (.c (.lit (.int .i64 17)))))
 (.leaf [] (.w (.c (.lit (.int .i64 0))))))))))))))))))))))))))))))))))
 drvFind)
 (qrvFind 22 35 0
 (qrvFind 23 2 1
 (qrvFind 24 19 0
 drvFind
 (qrvFind 25 19 0
 drvFind
 (qrvFind 26 19 0
 drvFind
 (qrvFind 27 19 0
 drvFind
 (qrvFind 28 19 0
 drvFind
 (qrvFind 29 19 0
 drvFind
 (qrvFind 30 19 0
 drvFind
 (qrvFind 31 19 0
 drvFind
 (qrvFind 32 19 0
 drvFind
 (qrvFind 33 51 0
 drvFind
 (qrvFind 34 51 0
 drvFind
 (qrvFind 35 51 0
 drvFind
 (qrvFind 36 51 0
 drvFind
 (qrvFind 37 51 0
 drvFind
 (qrvFind 38 51 0
 drvFind
 (qrvFind 39 51 0
 drvFind
 (qrvFind 40 51 0
 drvFind
 (qrvFind 41 51 0
 drvFind
 (qrvFind 42 51 0
 drvFind
 (qrvFind 43 51 0
 drvFind
 (qrvFind 44 51 0
 drvFind
 (qrvFind 45 51 0
 drvFind
 (qrvFind 46 51 0
 drvFind
 (qrvFind 47 51 0
 drvFind
 (qrvFind 48 51 0
 drvFind
 (qrvFind 49 51 0
 drvFind
 (qrvFind 50 51 0
 drvFind
 (.nb [.setB0 51 (.all [(.ii (.var 0) (.lit 35)), (.ii (.var 1) (.lit 2)), (.ii (.var 2) (.lit 0))])] 51
 (.leaf [] (.w (.c (.lit (.int .i64 18)))))
 (.leaf [] (.w (.c (.lit (.int .i64 0)))))))))))))))))))))))))))))))))
 (qrvFind 24 19 0
 drvFind
 (qrvFind 25 19 0
 drvFind
 (qrvFind 26 19 0
 drvFind
 (qrvFind 27 19 0
 drvFind
 (qrvFind 28 19 0
 drvFind
 (qrvFind 29 19 0
 drvFind
 (qrvFind 30 19 0
 drvFind
 (qrvFind 31 19 0
 drvFind
 (qrvFind 32 19 0
 drvFind
 (qrvFind 33 51 0
 drvFind
 (qrvFind 34 51 0
 drvFind
 (qrvFind 35 51 0
 drvFind
 (qrvFind 36 51 0
 drvFind
 (qrvFind 37 51 0
 drvFind
 (qrvFind 38 51 0
 drvFind
 (qrvFind 39 51 0
 drvFind
 (qrvFind 40 51 0
 drvFind
 (qrvFind 41 51 0
 drvFind
 (qrvFind 42 51 0
 drvFind
 (qrvFind 43 51 0
 drvFind
 (qrvFind 44 51 0
 drvFind
 (qrvFind 45 51 0
 drvFind
 (qrvFind 46 51 0
 drvFind
 (qrvFind 47 51 0
 drvFind
 (qrvFind 48 51 0
 drvFind
 (qrvFind 49 51 0
 drvFind
 (qrvFind 50 51 0
 drvFind
 (.leaf [] (.w (.c (.lit (.int .i64 0)))))))))))))))))))))))))))))))))
 drvFind))
 drvFind))
 (qrvFind 19 35 0
 drvFind
 (qrvFind 20 35 0
 drvFind
 (qrvFind 21 19 0
 (qrvFind 22 0 1
 (qrvFind 23 19 0
 (qrvFind 24 2 1
 drvFind
 (qrvFind 25 19 0
 (qrvFind 26 3 1
 drvFind
 (qrvFind 27 19 0
 (qrvFind 28 4 1
 drvFind
 (qrvFind 29 19 0
 (qrvFind 30 6 1
 drvFind
 (qrvFind 31 19 0
 (qrvFind 32 7 1
 drvFind
 (qrvFind 33 19 0
 (qrvFind 34 1 1
 drvFind
 (qrvFind 35 19 0
 (qrvFind 36 5 1
 drvFind
 (qrvFind 37 19 0
 (qrvFind 38 5 1
 drvFind
 (qrvFind 39 51 0
 drvFind
 (qrvFind 40 51 0
 drvFind
 (qrvFind 41 51 0
 drvFind
 (qrvFind 42 51 0
 drvFind
 (qrvFind 43 51 0
 drvFind
 (qrvFind 44 51 0
 drvFind
 (qrvFind 45 51 0
 drvFind
 (qrvFind 46 51 0
 drvFind
 (qrvFind 47 51 0
 drvFind
 (qrvFind 48 51 0
 drvFind
 (qrvFind 49 51 0
 drvFind
 (qrvFind 50 51 0
 drvFind
 (qrvFind 51 51 0
 drvFind
 (qrvFind 52 51 0
 drvFind
 (qrvFind 53 51 0
 drvFind
 (qrvFind 54 51 0
 drvFind
 (qrvFind 55 51 0
 drvFind
 (qrvFind 56 51 0
 drvFind
 (.nb [.setB0 57 (.all [(.ii (.var 0) (.lit 19)), (.ii (.var 1) (.lit 0)), (.ii (.var 2) (.lit 0))])] 57
 (.leaf [] (.w (.c (.lit (.int .i64 19)))))
 (.leaf [] (.w (.c (.lit (.int .i64 0)))))))))))))))))))))))))
 drvFind))
 drvFind))
 drvFind))
 drvFind))
 drvFind))
 drvFind))
 drvFind))
 drvFind)
 (qrvFind 23 19 0
 rvFindT0
 drvFind))
 (qrvFind 22 19 0
 drvFind
 (qrvFind 23 19 0
 drvFind
 (qrvFind 24 19 0
 drvFind
 (qrvFind 25 19 0
 drvFind
 (qrvFind 26 19 0
 drvFind
 (qrvFind 27 19 0
 drvFind
 (qrvFind 28 19 0
 drvFind
 (qrvFind 29 19 0
 drvFind
 (qrvFind 30 51 0
 (qrvFind 31 0 1
 (qrvFind 32 51 0
 (qrvFind 33 0 1
 (qrvFind 34 51 0
 (qrvFind 35 1 1
 drvFind
 (qrvFind 36 51 0
 (qrvFind 37 2 1
 drvFind
 (qrvFind 38 51 0
 (qrvFind 39 3 1
 drvFind
 (qrvFind 40 51 0
 (qrvFind 41 4 1
 drvFind
 (qrvFind 42 51 0
 (qrvFind 43 5 1
 drvFind
 (qrvFind 44 51 0
 (qrvFind 45 5 1
 drvFind
 (qrvFind 46 51 0
 (qrvFind 47 6 1
 drvFind
 (qrvFind 48 51 0
 (qrvFind 49 7 1
 drvFind
 (qrvFind 50 51 0
 (qrvFind 51 0 1
 (qrvFind 52 51 0
 (qrvFind 53 1 1
 drvFind
 (qrvFind 54 51 0
 (qrvFind 55 2 1
 drvFind
 (qrvFind 56 51 0
 (qrvFind 57 3 1
 drvFind
 (qrvFind 58 51 0
 (qrvFind 59 4 1
 drvFind
 (qrvFind 60 51 0
 (qrvFind 61 5 1
 drvFind
 (qrvFind 62 51 0
 (qrvFind 63 6 1
 drvFind
 (qrvFind 64 51 0
 (qrvFind 65 7 1
 drvFind
 (.nb [.setB0 66 (.all [(.ii (.var 0) (.lit 51)), (.ii (.var 1) (.lit 0)), (.ii (.var 2) (.lit 0))])] 66
 (.leaf [] (.w (.c (.lit (.int .i64 28)))))
 (.nb [.setB0 67 (.all [(.ii (.var 0) (.lit 51)), (.ii (.var 1) (.lit 0)), (.ii (.var 2) (.lit 32))])] 67
 (.leaf [] (.w (.c (.lit (.int .i64 29)))))
 (.nb [.setB0 68 (.all [(.ii (.var 0) (.lit 51)), (.ii (.var 1) (.lit 0)), (.ii (.var 2) (.lit 1))])] 68
 (.leaf [] (.w (.c (.lit (.int .i64 38)))))
 (.leaf [] (.w (.c (.lit (.int .i64 0)))))))))
 drvFind))
 drvFind))
 drvFind))
 drvFind))
 drvFind))
 drvFind))
 drvFind)
 drvFind)
 drvFind))
 drvFind))
 drvFind))
 drvFind))
 drvFind))
 drvFind))
 drvFind))
 drvFind))
 drvFind)
 drvFind)
 drvFind)
 (qrvFind 32 51 0
 (qrvFind 33 0 1
 drvFind
 (qrvFind 34 51 0
 (qrvFind 35 1 1
 (qrvFind 36 51 0
 (qrvFind 37 2 1
 drvFind
 (qrvFind 38 51 0
 (qrvFind 39 3 1
 drvFind
 (qrvFind 40 51 0
 (qrvFind 41 4 1
 drvFind
 (qrvFind 42 51 0
 (qrvFind 43 5 1
 drvFind
 (qrvFind 44 51 0
 (qrvFind 45 5 1
 drvFind
 (qrvFind 46 51 0
 (qrvFind 47 6 1
 drvFind
 (qrvFind 48 51 0
 (qrvFind 49 7 1
 drvFind
 (qrvFind 50 51 0
 (qrvFind 51 0 1
 drvFind
 (qrvFind 52 51 0
 (qrvFind 53 1 1
 (qrvFind 54 51 0
 (qrvFind 55 2 1
 drvFind
 (qrvFind 56 51 0
 (qrvFind 57 3 1
 drvFind
 (qrvFind 58 51 0
 (qrvFind 59 4 1
 drvFind
 (qrvFind 60 51 0
 (qrvFind 61 5 1
 drvFind
 (qrvFind 62 51 0
 (qrvFind 63 6 1
 drvFind
 (qrvFind 64 51 0
 (qrvFind 65 7 1
 drvFind
 (.nb [.setB0 66 (.all [(.ii (.var 0) (.lit 51)), (.ii (.var 1) (.lit 1)), (.ii (.var 2) (.lit 0))])] 66
 (.leaf [] (.w (.c (.lit (.int .i64 30)))))
 (.nb [.setB0 67 (.all [(.ii (.var 0) (.lit 51)), (.ii (.var 1) (.lit 1)), (.ii (.var 2) (.lit 1))])] 67
 (.leaf [] (.w (.c (.lit (.int .i64 39)))))
 (.leaf [] (.w (.c (.lit (.int .i64 0))))))))
 drvFind))
 drvFind))
 drvFind))
 drvFind))
 drvFind))
 drvFind)
 drvFind)
 drvFind))
 drvFind))
 drvFind))
 drvFind))
 drvFind))
 drvFind))
 drvFind))
 drvFind))
 drvFind)
 (qrvFind 36 51 0
 (qrvFind 37 2 1
 (qrvFind 38 51 0
 (qrvFind 39 3 1
 drvFind
 (qrvFind 40 51 0
 (qrvFind 41 4 1
 drvFind
 (qrvFind 42 51 0
 (qrvFind 43 5 1
 drvFind
 (qrvFind 44 51 0
 (qrvFind 45 5 1
 drvFind
 (qrvFind 46 51 0
 (qrvFind 47 6 1
 drvFind
 (qrvFind 48 51 0
 (qrvFind 49 7 1
 drvFind
 (qrvFind 50 51 0
 (qrvFind 51 0 1
 drvFind
 (qrvFind 52 51 0
 (qrvFind 53 1 1
 drvFind
 (qrvFind 54 51 0
 (qrvFind 55 2 1
 (qrvFind 56 51 0
 (qrvFind 57 3 1
 drvFind
 (qrvFind 58 51 0
 (qrvFind 59 4 1
 drvFind
 (qrvFind 60 51 0
 (qrvFind 61 5 1
 drvFind
 (qrvFind 62 51 0
 (qrvFind 63 6 1
 drvFind
 (qrvFind 64 51 0
 (qrvFind 65 7 1
 drvFind
 (.nb [.setB0 66 (.all [(.ii (.var 0) (.lit 51)), (.ii (.var 1) (.lit 2)), (.ii (.var 2) (.lit 0))])] 66
 (.leaf [] (.w (.c (.lit (.int .i64 31)))))
 (.nb [.setB0 67 (.all [(.ii (.var 0) (.lit 51)), (.ii (.var 1) (.lit 2)), (.ii (.var 2) (.lit 1))])] 67
 (.leaf [] (.w (.c (.lit (.int .i64 40)))))
 (.leaf [] (.w (.c (.lit (.int .i64 0))))))))
 drvFind))
 drvFind))
 drvFind))
 drvFind))
 drvFind)
 drvFind)
 drvFind))
 drvFind))
 drvFind))
 drvFind))
 drvFind))
 drvFind))
 drvFind))
 drvFind))
 drvFind)
 (qrvFind 38 51 0
 rvFindT1
 drvFind))
 drvFind))
 drvFind))
 drvFind))
 (qrvFind 31 51 0
 drvFind
 (qrvFind 32 51 0
 drvFind
 (qrvFind 33 51 0
 drvFind
 (qrvFind 34 51 0
 drvFind
 (qrvFind 35 51 0
 drvFind
 (qrvFind 36 51 0
 drvFind
 (qrvFind 37 51 0
 drvFind
 (qrvFind 38 51 0
 drvFind
 (qrvFind 39 51 0
 drvFind
 (qrvFind 40 51 0
 drvFind
 (qrvFind 41 51 0
 drvFind
 (qrvFind 42 51 0
 drvFind
 (qrvFind 43 51 0
 drvFind
 (qrvFind 44 51 0
 drvFind
 (qrvFind 45 51 0
 drvFind
 (qrvFind 46 51 0
 drvFind
 (qrvFind 47 51 0
 drvFind
 (.leaf [] (.w (.c (.lit (.int .i64 0)))))))))))))))))))))))))))))))))))
theorem rvFindT2_ok : LT.Ok rvFindR rvFindT2 rvFindT2_okD rvFindT2_okE :=
 (LT.ok_nb (LT.ok_nb (LT.ok_nb (LT.ok_nb LT.ok_dead
 (LT.ok_nb (LT.ok_nb LT.ok_dead
 (LT.ok_nb LT.ok_dead
 (LT.ok_nb LT.ok_dead
 (LT.ok_nb LT.ok_dead
 (LT.ok_nb LT.ok_dead
 (LT.ok_nb LT.ok_dead
 (LT.ok_nb LT.ok_dead
 (LT.ok_nb LT.ok_dead
 (LT.ok_nb LT.ok_dead
 (LT.ok_nb LT.ok_dead
 (LT.ok_nb LT.ok_dead
 (LT.ok_nb LT.ok_dead
 (LT.ok_nb LT.ok_dead
 (LT.ok_nb LT.ok_dead
 (LT.ok_nb LT.ok_dead
 (LT.ok_nb LT.ok_dead
 (LT.ok_nb LT.ok_dead
 (LT.ok_nb LT.ok_dead
 (LT.ok_nb LT.ok_dead
 (LT.ok_nb LT.ok_dead
 (LT.ok_nb LT.ok_dead
 (LT.ok_nb LT.ok_dead
 (LT.ok_nb LT.ok_dead
 (LT.ok_nb LT.ok_dead
 (LT.ok_nb LT.ok_dead
 (LT.ok_nb LT.ok_dead
 (LT.ok_nb LT.ok_dead
 (LT.ok_nb LT.ok_dead
 (LT.ok_nb (LT.ok_leaf (by kernel_rfl))
 (LT.ok_leaf (by kernel_rfl)))))))))))))))))))))))))))))))
 LT.ok_dead))
 LT.ok_dead)
 (LT.ok_nb (LT.ok_nb (LT.ok_nb (LT.ok_nb LT.ok_dead
 (LT.ok_nb LT.ok_dead
 (LT.ok_nb LT.ok_dead
 (LT.ok_nb LT.ok_dead
 (LT.ok_nb LT.ok_dead
 (LT.ok_nb LT.ok_dead
 (LT.ok_nb LT.ok_dead
 (LT.ok_nb LT.ok_dead
 (LT.ok_nb LT.ok_dead
 (LT.ok_nb LT.ok_dead
 (LT.ok_nb LT.ok_dead
 (LT.ok_nb LT.ok_dead
 (LT.ok_nb LT.ok_dead
 (LT.ok_nb LT.ok_dead
 (LT.ok_nb LT.ok_dead
 (LT.ok_nb LT.ok_dead
 (LT.ok_nb LT.ok_dead
 (LT.ok_nb LT.ok_dead
 (LT.ok_nb LT.ok_dead
 (LT.ok_nb LT.ok_dead
 (LT.ok_nb LT.ok_dead
 (LT.ok_nb LT.ok_dead
 (LT.ok_nb LT.ok_dead
 (LT.ok_nb LT.ok_dead
 (LT.ok_nb LT.ok_dead
 (LT.ok_nb LT.ok_dead
 (LT.ok_nb LT.ok_dead
 (LT.ok_nb LT.ok_dead
 (LT.ok_nb (LT.ok_leaf (by kernel_rfl))
 (LT.ok_leaf (by kernel_rfl)))))))))))))))))))))))))))))))
 LT.ok_dead)
 (LT.ok_nb (LT.ok_nb (LT.ok_nb LT.ok_dead
 (LT.ok_nb LT.ok_dead
 (LT.ok_nb LT.ok_dead
 (LT.ok_nb LT.ok_dead
 (LT.ok_nb LT.ok_dead
 (LT.ok_nb LT.ok_dead
 (LT.ok_nb LT.ok_dead
 (LT.ok_nb LT.ok_dead
 (LT.ok_nb LT.ok_dead
 (LT.ok_nb LT.ok_dead
 (LT.ok_nb LT.ok_dead
 (LT.ok_nb LT.ok_dead
 (LT.ok_nb LT.ok_dead
 (LT.ok_nb LT.ok_dead
 (LT.ok_nb LT.ok_dead
 (LT.ok_nb LT.ok_dead
 (LT.ok_nb LT.ok_dead
 (LT.ok_nb LT.ok_dead
 (LT.ok_nb LT.ok_dead
 (LT.ok_nb LT.ok_dead
 (LT.ok_nb LT.ok_dead
 (LT.ok_nb LT.ok_dead
 (LT.ok_nb LT.ok_dead
 (LT.ok_nb LT.ok_dead
 (LT.ok_nb LT.ok_dead
 (LT.ok_nb LT.ok_dead
 (LT.ok_nb LT.ok_dead
 (LT.ok_nb (LT.ok_leaf (by kernel_rfl))
 (LT.ok_leaf (by kernel_rfl))))))))))))))))))))))))))))))
 (LT.ok_nb LT.ok_dead
 (LT.ok_nb LT.ok_dead
 (LT.ok_nb LT.ok_dead
 (LT.ok_nb LT.ok_dead
 (LT.ok_nb LT.ok_dead
 (LT.ok_nb LT.ok_dead
 (LT.ok_nb LT.ok_dead
 (LT.ok_nb LT.ok_dead
 (LT.ok_nb LT.ok_dead
 (LT.ok_nb LT.ok_dead
 (LT.ok_nb LT.ok_dead
 (LT.ok_nb LT.ok_dead
 (LT.ok_nb LT.ok_dead
 (LT.ok_nb LT.ok_dead
 (LT.ok_nb LT.ok_dead
 (LT.ok_nb LT.ok_dead
 (LT.ok_nb LT.ok_dead
 (LT.ok_nb LT.ok_dead
 (LT.ok_nb LT.ok_dead
 (LT.ok_nb LT.ok_dead
 (LT.ok_nb LT.ok_dead
 (LT.ok_nb LT.ok_dead
 (LT.ok_nb LT.ok_dead
 (LT.ok_nb LT.ok_dead
 (LT.ok_nb LT.ok_dead
 (LT.ok_nb LT.ok_dead
 (LT.ok_nb LT.ok_dead
 (LT.ok_leaf (by kernel_rfl))))))))))))))))))))))))))))))
 LT.ok_dead))
 LT.ok_dead))
 (LT.ok_nb LT.ok_dead
 (LT.ok_nb LT.ok_dead
 (LT.ok_nb (LT.ok_nb (LT.ok_nb (LT.ok_nb LT.ok_dead
 (LT.ok_nb (LT.ok_nb LT.ok_dead
 (LT.ok_nb (LT.ok_nb LT.ok_dead
 (LT.ok_nb (LT.ok_nb LT.ok_dead
 (LT.ok_nb (LT.ok_nb LT.ok_dead
 (LT.ok_nb (LT.ok_nb LT.ok_dead
 (LT.ok_nb (LT.ok_nb LT.ok_dead
 (LT.ok_nb (LT.ok_nb LT.ok_dead
 (LT.ok_nb LT.ok_dead
 (LT.ok_nb LT.ok_dead
 (LT.ok_nb LT.ok_dead
 (LT.ok_nb LT.ok_dead
 (LT.ok_nb LT.ok_dead
 (LT.ok_nb LT.ok_dead
 (LT.ok_nb LT.ok_dead
 (LT.ok_nb LT.ok_dead
 (LT.ok_nb LT.ok_dead
 (LT.ok_nb LT.ok_dead
 (LT.ok_nb LT.ok_dead
 (LT.ok_nb LT.ok_dead
 (LT.ok_nb LT.ok_dead
 (LT.ok_nb LT.ok_dead
 (LT.ok_nb LT.ok_dead
 (LT.ok_nb LT.ok_dead
 (LT.ok_nb LT.ok_dead
 (LT.ok_nb LT.ok_dead
 (LT.ok_nb (LT.ok_leaf (by kernel_rfl))
 (LT.ok_leaf (by kernel_rfl))))))))))))))))))))))
 LT.ok_dead))
 LT.ok_dead))
 LT.ok_dead))
 LT.ok_dead))
 LT.ok_dead))
 LT.ok_dead))
 LT.ok_dead))
 LT.ok_dead)
 (LT.ok_nb rvFindT0_ok
 LT.ok_dead))
 (LT.ok_nb LT.ok_dead
 (LT.ok_nb LT.ok_dead
 (LT.ok_nb LT.ok_dead
 (LT.ok_nb LT.ok_dead
 (LT.ok_nb LT.ok_dead
 (LT.ok_nb LT.ok_dead
 (LT.ok_nb LT.ok_dead
 (LT.ok_nb LT.ok_dead
 (LT.ok_nb (LT.ok_nb (LT.ok_nb (LT.ok_nb (LT.ok_nb (LT.ok_nb LT.ok_dead
 (LT.ok_nb (LT.ok_nb LT.ok_dead
 (LT.ok_nb (LT.ok_nb LT.ok_dead
 (LT.ok_nb (LT.ok_nb LT.ok_dead
 (LT.ok_nb (LT.ok_nb LT.ok_dead
 (LT.ok_nb (LT.ok_nb LT.ok_dead
 (LT.ok_nb (LT.ok_nb LT.ok_dead
 (LT.ok_nb (LT.ok_nb LT.ok_dead
 (LT.ok_nb (LT.ok_nb (LT.ok_nb (LT.ok_nb LT.ok_dead
 (LT.ok_nb (LT.ok_nb LT.ok_dead
 (LT.ok_nb (LT.ok_nb LT.ok_dead
 (LT.ok_nb (LT.ok_nb LT.ok_dead
 (LT.ok_nb (LT.ok_nb LT.ok_dead
 (LT.ok_nb (LT.ok_nb LT.ok_dead
 (LT.ok_nb (LT.ok_nb LT.ok_dead
 (LT.ok_nb (LT.ok_leaf (by kernel_rfl))
 (LT.ok_nb (LT.ok_leaf (by kernel_rfl))
 (LT.ok_nb (LT.ok_leaf (by kernel_rfl))
 (LT.ok_leaf (by kernel_rfl))))))
 LT.ok_dead))
 LT.ok_dead))
 LT.ok_dead))
 LT.ok_dead))
 LT.ok_dead))
 LT.ok_dead))
 LT.ok_dead)
 LT.ok_dead)
 LT.ok_dead))
 LT.ok_dead))
 LT.ok_dead))
 LT.ok_dead))
 LT.ok_dead))
 LT.ok_dead))
 LT.ok_dead))
 LT.ok_dead))
 LT.ok_dead)
 LT.ok_dead)
 LT.ok_dead)
 (LT.ok_nb (LT.ok_nb LT.ok_dead
 (LT.ok_nb (LT.ok_nb (LT.ok_nb (LT.ok_nb LT.ok_dead
 (LT.ok_nb (LT.ok_nb LT.ok_dead
 (LT.ok_nb (LT.ok_nb LT.ok_dead
 (LT.ok_nb (LT.ok_nb LT.ok_dead
 (LT.ok_nb (LT.ok_nb LT.ok_dead
 (LT.ok_nb (LT.ok_nb LT.ok_dead
 (LT.ok_nb (LT.ok_nb LT.ok_dead
 (LT.ok_nb (LT.ok_nb LT.ok_dead
 (LT.ok_nb (LT.ok_nb (LT.ok_nb (LT.ok_nb LT.ok_dead
 (LT.ok_nb (LT.ok_nb LT.ok_dead
 (LT.ok_nb (LT.ok_nb LT.ok_dead
 (LT.ok_nb (LT.ok_nb LT.ok_dead
 (LT.ok_nb (LT.ok_nb LT.ok_dead
 (LT.ok_nb (LT.ok_nb LT.ok_dead
 (LT.ok_nb (LT.ok_leaf (by kernel_rfl))
 (LT.ok_nb (LT.ok_leaf (by kernel_rfl))
 (LT.ok_leaf (by kernel_rfl)))))
 LT.ok_dead))
 LT.ok_dead))
 LT.ok_dead))
 LT.ok_dead))
 LT.ok_dead))
 LT.ok_dead)
 LT.ok_dead)
 LT.ok_dead))
 LT.ok_dead))
 LT.ok_dead))
 LT.ok_dead))
 LT.ok_dead))
 LT.ok_dead))
 LT.ok_dead))
 LT.ok_dead))
 LT.ok_dead)
 (LT.ok_nb (LT.ok_nb (LT.ok_nb (LT.ok_nb LT.ok_dead
 (LT.ok_nb (LT.ok_nb LT.ok_dead
 (LT.ok_nb (LT.ok_nb LT.ok_dead
 (LT.ok_nb (LT.ok_nb LT.ok_dead
 (LT.ok_nb (LT.ok_nb LT.ok_dead
 (LT.ok_nb (LT.ok_nb LT.ok_dead
 (LT.ok_nb (LT.ok_nb LT.ok_dead
 (LT.ok_nb (LT.ok_nb LT.ok_dead
 (LT.ok_nb (LT.ok_nb (LT.ok_nb (LT.ok_nb LT.ok_dead
 (LT.ok_nb (LT.ok_nb LT.ok_dead
 (LT.ok_nb (LT.ok_nb LT.ok_dead
 (LT.ok_nb (LT.ok_nb LT.ok_dead
 (LT.ok_nb (LT.ok_nb LT.ok_dead
 (LT.ok_nb (LT.ok_leaf (by kernel_rfl))
 (LT.ok_nb (LT.ok_leaf (by kernel_rfl))
 (LT.ok_leaf (by kernel_rfl)))))
 LT.ok_dead))
 LT.ok_dead))
 LT.ok_dead))
 LT.ok_dead))
 LT.ok_dead)
 LT.ok_dead)
 LT.ok_dead))
 LT.ok_dead))
 LT.ok_dead))
 LT.ok_dead))
 LT.ok_dead))
 LT.ok_dead))
 LT.ok_dead))
 LT.ok_dead))
 LT.ok_dead)
 (LT.ok_nb rvFindT1_ok
 LT.ok_dead))
 LT.ok_dead))
 LT.ok_dead))
 LT.ok_dead))
 (LT.ok_nb LT.ok_dead
 (LT.ok_nb LT.ok_dead
 (LT.ok_nb LT.ok_dead
 (LT.ok_nb LT.ok_dead
 (LT.ok_nb LT.ok_dead
 (LT.ok_nb LT.ok_dead
 (LT.ok_nb LT.ok_dead
 (LT.ok_nb LT.ok_dead
 (LT.ok_nb LT.ok_dead
 (LT.ok_nb LT.ok_dead
 (LT.ok_nb LT.ok_dead
 (LT.ok_nb LT.ok_dead
 (LT.ok_nb LT.ok_dead
 (LT.ok_nb LT.ok_dead
 (LT.ok_nb LT.ok_dead
 (LT.ok_nb LT.ok_dead
 (LT.ok_nb LT.ok_dead
 (LT.ok_leaf (by kernel_rfl))))))))))))))))))))))))))))))))
noncomputable def rvFindT3 : LT :=
 (qrvFind 7 99 0
 (qrvFind 8 0 1
 (qrvFind 9 99 0
 (qrvFind 10 1 1
 drvFind
 (qrvFind 11 99 0
 (qrvFind 12 4 1
 drvFind
 (qrvFind 13 99 0
 (qrvFind 14 5 1
 drvFind
 (qrvFind 15 99 0
 (qrvFind 16 6 1
 drvFind
 (qrvFind 17 99 0
 (qrvFind 18 7 1
 drvFind
 (qrvFind 19 3 0
 drvFind
 (qrvFind 20 3 0
 drvFind
 (qrvFind 21 3 0
 drvFind
 (qrvFind 22 3 0
 drvFind
 (qrvFind 23 3 0
 drvFind
 (qrvFind 24 35 0
 drvFind
 (qrvFind 25 35 0
 drvFind
 (qrvFind 26 35 0
 drvFind
 (qrvFind 27 19 0
 drvFind
 (qrvFind 28 19 0
 drvFind
 (qrvFind 29 19 0
 drvFind
 (qrvFind 30 19 0
 drvFind
 (qrvFind 31 19 0
 drvFind
 (qrvFind 32 19 0
 drvFind
 (qrvFind 33 19 0
 drvFind
 (qrvFind 34 19 0
 drvFind
 (qrvFind 35 19 0
 drvFind
 (qrvFind 36 51 0
 drvFind
 (qrvFind 37 51 0
 drvFind
 (qrvFind 38 51 0
 drvFind
 (qrvFind 39 51 0
 drvFind
 (qrvFind 40 51 0
 drvFind
 (qrvFind 41 51 0
 drvFind
 (qrvFind 42 51 0
 drvFind
 (qrvFind 43 51 0
 drvFind
 (qrvFind 44 51 0
 drvFind
 (qrvFind 45 51 0
 drvFind
 (qrvFind 46 51 0
 drvFind
 (qrvFind 47 51 0
 drvFind
 (qrvFind 48 51 0
 drvFind
 (qrvFind 49 51 0
 drvFind
 (qrvFind 50 51 0
 drvFind
 (qrvFind 51 51 0
 drvFind
 (qrvFind 52 51 0
 drvFind
 (qrvFind 53 51 0
 drvFind
 (.nb [.setB0 54 (.all [(.ii (.var 0) (.lit 99)), (.ii (.var 1) (.lit 0)), (.ii (.var 2) (.lit 0))])] 54
 (.leaf [] (.w (.c (.lit (.int .i64 5)))))
 (.leaf [] (.w (.c (.lit (.int .i64 0))))))))))))))))))))))))))))))))))))))))))
 drvFind))
 drvFind))
 drvFind))
 drvFind))
 drvFind)
 (qrvFind 9 99 0
 (qrvFind 10 1 1
 (qrvFind 11 99 0
 (qrvFind 12 4 1
 drvFind
 (qrvFind 13 99 0
 (qrvFind 14 5 1
 drvFind
 (qrvFind 15 99 0
 (qrvFind 16 6 1
 drvFind
 (qrvFind 17 99 0
 (qrvFind 18 7 1
 drvFind
 (qrvFind 19 3 0
 drvFind
 (qrvFind 20 3 0
 drvFind
 (qrvFind 21 3 0
 drvFind
 (qrvFind 22 3 0
 drvFind
 (qrvFind 23 3 0
 drvFind
 (qrvFind 24 35 0
 drvFind
 (qrvFind 25 35 0
 drvFind
 (qrvFind 26 35 0
 drvFind
 (qrvFind 27 19 0
 drvFind
 (qrvFind 28 19 0
 drvFind
 (qrvFind 29 19 0
 drvFind
 (qrvFind 30 19 0
 drvFind
 (qrvFind 31 19 0
 drvFind
 (qrvFind 32 19 0
 drvFind
 (qrvFind 33 19 0
 drvFind
 (qrvFind 34 19 0
 drvFind
 (qrvFind 35 19 0
 drvFind
 (qrvFind 36 51 0
 drvFind
 (qrvFind 37 51 0
 drvFind
 (qrvFind 38 51 0
 drvFind
 (qrvFind 39 51 0
 drvFind
 (qrvFind 40 51 0
 drvFind
 (qrvFind 41 51 0
 drvFind
 (qrvFind 42 51 0
 drvFind
 (qrvFind 43 51 0
 drvFind
 (qrvFind 44 51 0
 drvFind
 (qrvFind 45 51 0
 drvFind
 (qrvFind 46 51 0
 drvFind
 (qrvFind 47 51 0
 drvFind
 (qrvFind 48 51 0
 drvFind
 (qrvFind 49 51 0
 drvFind
 (qrvFind 50 51 0
 drvFind
 (qrvFind 51 51 0
 drvFind
 (qrvFind 52 51 0
 drvFind
 (qrvFind 53 51 0
 drvFind
 (.nb [.setB0 54 (.all [(.ii (.var 0) (.lit 99)), (.ii (.var 1) (.lit 1)), (.ii (.var 2) (.lit 0))])] 54
 (.leaf [] (.w (.c (.lit (.int .i64 6)))))
 (.leaf [] (.w (.c (.lit (.int .i64 0))))))))))))))))))))))))))))))))))))))))))
 drvFind))
 drvFind))
 drvFind))
 drvFind)
 (qrvFind 11 99 0
 (qrvFind 12 4 1
 (qrvFind 13 99 0
 (qrvFind 14 5 1
 drvFind
 (qrvFind 15 99 0
 (qrvFind 16 6 1
 drvFind
 (qrvFind 17 99 0
 (qrvFind 18 7 1
 drvFind
 (qrvFind 19 3 0
 drvFind
 (qrvFind 20 3 0
 drvFind
 (qrvFind 21 3 0
 drvFind
 (qrvFind 22 3 0
 drvFind
 (qrvFind 23 3 0
 drvFind
 (qrvFind 24 35 0
 drvFind
 (qrvFind 25 35 0
 drvFind
 (qrvFind 26 35 0
 drvFind
 (qrvFind 27 19 0
 drvFind
 (qrvFind 28 19 0
 drvFind
 (qrvFind 29 19 0
 drvFind
 (qrvFind 30 19 0
 drvFind
 (qrvFind 31 19 0
 drvFind
 (qrvFind 32 19 0
 drvFind
 (qrvFind 33 19 0
 drvFind
 (qrvFind 34 19 0
 drvFind
 (qrvFind 35 19 0
 drvFind
 (qrvFind 36 51 0
 drvFind
 (qrvFind 37 51 0
 drvFind
 (qrvFind 38 51 0
 drvFind
 (qrvFind 39 51 0
 drvFind
 (qrvFind 40 51 0
 drvFind
 (qrvFind 41 51 0
 drvFind
 (qrvFind 42 51 0
 drvFind
 (qrvFind 43 51 0
 drvFind
 (qrvFind 44 51 0
 drvFind
 (qrvFind 45 51 0
 drvFind
 (qrvFind 46 51 0
 drvFind
 (qrvFind 47 51 0
 drvFind
 (qrvFind 48 51 0
 drvFind
 (qrvFind 49 51 0
 drvFind
 (qrvFind 50 51 0
 drvFind
 (qrvFind 51 51 0
 drvFind
 (qrvFind 52 51 0
 drvFind
 (qrvFind 53 51 0
 drvFind
 (.nb [.setB0 54 (.all [(.ii (.var 0) (.lit 99)), (.ii (.var 1) (.lit 4)), (.ii (.var 2) (.lit 0))])] 54
 (.leaf [] (.w (.c (.lit (.int .i64 7)))))
 (.leaf [] (.w (.c (.lit (.int .i64 0))))))))))))))))))))))))))))))))))))))))))
 drvFind))
 drvFind))
 drvFind)
 (qrvFind 13 99 0
 (qrvFind 14 5 1
 (qrvFind 15 99 0
 (qrvFind 16 6 1
 drvFind
 (qrvFind 17 99 0
 (qrvFind 18 7 1
 drvFind
 (qrvFind 19 3 0
 drvFind
 (qrvFind 20 3 0
 drvFind
 (qrvFind 21 3 0
 drvFind
 (qrvFind 22 3 0
 drvFind
 (qrvFind 23 3 0
 drvFind
 (qrvFind 24 35 0
 drvFind
 (qrvFind 25 35 0
 drvFind
 (qrvFind 26 35 0
 drvFind
 (qrvFind 27 19 0
 drvFind
 (qrvFind 28 19 0
 drvFind
 (qrvFind 29 19 0
 drvFind
 (qrvFind 30 19 0
 drvFind
 (qrvFind 31 19 0
 drvFind
 (qrvFind 32 19 0
 drvFind
 (qrvFind 33 19 0
 drvFind
 (qrvFind 34 19 0
 drvFind
 (qrvFind 35 19 0
 drvFind
 (qrvFind 36 51 0
 drvFind
 (qrvFind 37 51 0
 drvFind
 (qrvFind 38 51 0
 drvFind
 (qrvFind 39 51 0
 drvFind
 (qrvFind 40 51 0
 drvFind
 (qrvFind 41 51 0
 drvFind
 (qrvFind 42 51 0
 drvFind
 (qrvFind 43 51 0
 drvFind
 (qrvFind 44 51 0
 drvFind
 (qrvFind 45 51 0
 drvFind
 (qrvFind 46 51 0
 drvFind
 (qrvFind 47 51 0
 drvFind
 (qrvFind 48 51 0
 drvFind
 (qrvFind 49 51 0
 drvFind
 (qrvFind 50 51 0
 drvFind
 (qrvFind 51 51 0
 drvFind
 (qrvFind 52 51 0
 drvFind
 (qrvFind 53 51 0
 drvFind
 (.nb [.setB0 54 (.all [(.ii (.var 0) (.lit 99)), (.ii (.var 1) (.lit 5)), (.ii (.var 2) (.lit 0))])] 54
 (.leaf [] (.w (.c (.lit (.int .i64 8)))))
 (.leaf [] (.w (.c (.lit (.int .i64 0))))))))))))))))))))))))))))))))))))))))))
 drvFind))
 drvFind)
 (qrvFind 15 99 0
 (qrvFind 16 6 1
 (qrvFind 17 99 0
 (qrvFind 18 7 1
 drvFind
 (qrvFind 19 3 0
 drvFind
 (qrvFind 20 3 0
 drvFind
 (qrvFind 21 3 0
 drvFind
 (qrvFind 22 3 0
 drvFind
 (qrvFind 23 3 0
 drvFind
 (qrvFind 24 35 0
 drvFind
 (qrvFind 25 35 0
 drvFind
 (qrvFind 26 35 0
 drvFind
 (qrvFind 27 19 0
 drvFind
 (qrvFind 28 19 0
 drvFind
 (qrvFind 29 19 0
 drvFind
 (qrvFind 30 19 0
 drvFind
 (qrvFind 31 19 0
 drvFind
 (qrvFind 32 19 0
 drvFind
 (qrvFind 33 19 0
 drvFind
 (qrvFind 34 19 0
 drvFind
 (qrvFind 35 19 0
 drvFind
 (qrvFind 36 51 0
 drvFind
 (qrvFind 37 51 0
 drvFind
 (qrvFind 38 51 0
 drvFind
 (qrvFind 39 51 0
 drvFind
 (qrvFind 40 51 0
 drvFind
 (qrvFind 41 51 0
 drvFind
 (qrvFind 42 51 0
 drvFind
 (qrvFind 43 51 0
 drvFind
 (qrvFind 44 51 0
 drvFind
 (qrvFind 45 51 0
 drvFind
 (qrvFind 46 51 0
 drvFind
 (qrvFind 47 51 0
 drvFind
 (qrvFind 48 51 0
 drvFind
 (qrvFind 49 51 0
 drvFind
 (qrvFind 50 51 0
 drvFind
 (qrvFind 51 51 0
 drvFind
 (qrvFind 52 51 0
 drvFind
 (qrvFind 53 51 0
 drvFind
 (.nb [.setB0 54 (.all [(.ii (.var 0) (.lit 99)), (.ii (.var 1) (.lit 6)), (.ii (.var 2) (.lit 0))])] 54
 (.leaf [] (.w (.c (.lit (.int .i64 9)))))
 (.leaf [] (.w (.c (.lit (.int .i64 0))))))))))))))))))))))))))))))))))))))))))
 drvFind)
 (qrvFind 17 99 0
 (qrvFind 18 7 1
 (qrvFind 19 3 0
 drvFind
 (qrvFind 20 3 0
 drvFind
 (qrvFind 21 3 0
 drvFind
 (qrvFind 22 3 0
 drvFind
 (qrvFind 23 3 0
 drvFind
 (qrvFind 24 35 0
 drvFind
 (qrvFind 25 35 0
 drvFind
 (qrvFind 26 35 0
 drvFind
 (qrvFind 27 19 0
 drvFind
 (qrvFind 28 19 0
 drvFind
 (qrvFind 29 19 0
 drvFind
 (qrvFind 30 19 0
 drvFind
 (qrvFind 31 19 0
 drvFind
 (qrvFind 32 19 0
 drvFind
 (qrvFind 33 19 0
 drvFind
 (qrvFind 34 19 0
 drvFind
 (qrvFind 35 19 0
 drvFind
 (qrvFind 36 51 0
 drvFind
 (qrvFind 37 51 0
 drvFind
 (qrvFind 38 51 0
 drvFind
 (qrvFind 39 51 0
 drvFind
 (qrvFind 40 51 0
 drvFind
 (qrvFind 41 51 0
 drvFind
 (qrvFind 42 51 0
 drvFind
 (qrvFind 43 51 0
 drvFind
 (qrvFind 44 51 0
 drvFind
 (qrvFind 45 51 0
 drvFind
 (qrvFind 46 51 0
 drvFind
 (qrvFind 47 51 0
 drvFind
 (qrvFind 48 51 0
 drvFind
 (qrvFind 49 51 0
 drvFind
 (qrvFind 50 51 0
 drvFind
 (qrvFind 51 51 0
 drvFind
 (qrvFind 52 51 0
 drvFind
 (qrvFind 53 51 0
 drvFind
 (.nb [.setB0 54 (.all [(.ii (.var 0) (.lit 99)), (.ii (.var 1) (.lit 7)), (.ii (.var 2) (.lit 0))])] 54
 (.leaf [] (.w (.c (.lit (.int .i64 10)))))
 (.leaf [] (.w (.c (.lit (.int .i64 0)))))))))))))))))))))))))))))))))))))))))
 (qrvFind 19 3 0
 drvFind
 (qrvFind 20 3 0
 drvFind
 (qrvFind 21 3 0
 drvFind
 (qrvFind 22 3 0
 drvFind
 (qrvFind 23 3 0
 drvFind
 (qrvFind 24 35 0
 drvFind
 (qrvFind 25 35 0
 drvFind
 (qrvFind 26 35 0
 drvFind
 (qrvFind 27 19 0
 drvFind
 (qrvFind 28 19 0
 drvFind
 (qrvFind 29 19 0
 drvFind
 (qrvFind 30 19 0
 drvFind
 (qrvFind 31 19 0
 drvFind
 (qrvFind 32 19 0
 drvFind
 (qrvFind 33 19 0
 drvFind
 (qrvFind 34 19 0
 drvFind
 (qrvFind 35 19 0
 drvFind
 (qrvFind 36 51 0
 drvFind
 (qrvFind 37 51 0
 drvFind
 (qrvFind 38 51 0
 drvFind
 (qrvFind 39 51 0
 drvFind
 (qrvFind 40 51 0
 drvFind
 (qrvFind 41 51 0
 drvFind
 (qrvFind 42 51 0
 drvFind
 (qrvFind 43 51 0
 drvFind
 (qrvFind 44 51 0
 drvFind
 (qrvFind 45 51 0
 drvFind
 (qrvFind 46 51 0
 drvFind
 (qrvFind 47 51 0
 drvFind
 (qrvFind 48 51 0
 drvFind
 (qrvFind 49 51 0
 drvFind
 (qrvFind 50 51 0
 drvFind
 (qrvFind 51 51 0
 drvFind
 (qrvFind 52 51 0
 drvFind
 (qrvFind 53 51 0
 drvFind
 (.leaf [] (.w (.c (.lit (.int .i64 0)))))))))))))))))))))))))))))))))))))))))
 drvFind))
 drvFind))
 drvFind))
 drvFind))
 drvFind))
 (qrvFind 8 99 0
 drvFind
 (qrvFind 9 99 0
 drvFind
 (qrvFind 10 99 0
 drvFind
 (qrvFind 11 99 0
 drvFind
 (qrvFind 12 99 0
 drvFind
 (qrvFind 13 3 0
 (qrvFind 14 0 1
 (qrvFind 15 3 0
 (qrvFind 16 1 1
 drvFind
 (qrvFind 17 3 0
 (qrvFind 18 2 1
 drvFind
 (qrvFind 19 3 0
 (qrvFind 20 4 1
 drvFind
 (qrvFind 21 3 0
 (qrvFind 22 5 1
 drvFind
 (qrvFind 23 35 0
 drvFind
 (qrvFind 24 35 0
 drvFind
 (qrvFind 25 35 0
 drvFind
 (qrvFind 26 19 0
 drvFind
 (qrvFind 27 19 0
 drvFind
 (qrvFind 28 19 0
 drvFind
 (qrvFind 29 19 0
 drvFind
 (qrvFind 30 19 0
 drvFind
 (qrvFind 31 19 0
 drvFind
 (qrvFind 32 19 0
 drvFind
 (qrvFind 33 19 0
 drvFind
 (qrvFind 34 19 0
 drvFind
 (qrvFind 35 51 0
 drvFind
 (qrvFind 36 51 0
 drvFind
 (qrvFind 37 51 0
 drvFind
 (qrvFind 38 51 0
 drvFind
 (qrvFind 39 51 0
 drvFind
 (qrvFind 40 51 0
 drvFind
 (qrvFind 41 51 0
 drvFind
 (qrvFind 42 51 0
 drvFind
 (qrvFind 43 51 0
 drvFind
 (qrvFind 44 51 0
 drvFind
 (qrvFind 45 51 0
 drvFind
 (qrvFind 46 51 0
 drvFind
 (qrvFind 47 51 0
 drvFind
 (qrvFind 48 51 0
 drvFind
 (qrvFind 49 51 0
 drvFind
 (qrvFind 50 51 0
 drvFind
 (qrvFind 51 51 0
 drvFind
 (qrvFind 52 51 0
 drvFind
 (.nb [.setB0 53 (.all [(.ii (.var 0) (.lit 3)), (.ii (.var 1) (.lit 0)), (.ii (.var 2) (.lit 0))])] 53
 (.leaf [] (.w (.c (.lit (.int .i64 11)))))
 (.leaf [] (.w (.c (.lit (.int .i64 0)))))))))))))))))))))))))))))))))))))
 drvFind))
 drvFind))
 drvFind))
 drvFind)
 (qrvFind 15 3 0
 (qrvFind 16 1 1
 (qrvFind 17 3 0
 (qrvFind 18 2 1
 drvFind
 (qrvFind 19 3 0
 (qrvFind 20 4 1
 drvFind
 (qrvFind 21 3 0
 (qrvFind 22 5 1
 drvFind
 (qrvFind 23 35 0
 drvFind
 (qrvFind 24 35 0
 drvFind
 (qrvFind 25 35 0
 drvFind
 (qrvFind 26 19 0
 drvFind
 (qrvFind 27 19 0
 drvFind
 (qrvFind 28 19 0
 drvFind
 (qrvFind 29 19 0
 drvFind
 (qrvFind 30 19 0
 drvFind
 (qrvFind 31 19 0
 drvFind
 (qrvFind 32 19 0
 drvFind
 (qrvFind 33 19 0
 drvFind
 (qrvFind 34 19 0
 drvFind
 (qrvFind 35 51 0
 drvFind
 (qrvFind 36 51 0
 drvFind
 (qrvFind 37 51 0
 drvFind
 (qrvFind 38 51 0
 drvFind
 (qrvFind 39 51 0
 drvFind
 (qrvFind 40 51 0
 drvFind
 (qrvFind 41 51 0
 drvFind
 (qrvFind 42 51 0
 drvFind
 (qrvFind 43 51 0
 drvFind
 (qrvFind 44 51 0
 drvFind
 (qrvFind 45 51 0
 drvFind
 (qrvFind 46 51 0
 drvFind
 (qrvFind 47 51 0
 drvFind
 (qrvFind 48 51 0
 drvFind
 (qrvFind 49 51 0
 drvFind
 (qrvFind 50 51 0
 drvFind
 (qrvFind 51 51 0
 drvFind
 (qrvFind 52 51 0
 drvFind
 (.nb [.setB0 53 (.all [(.ii (.var 0) (.lit 3)), (.ii (.var 1) (.lit 1)), (.ii (.var 2) (.lit 0))])] 53
 (.leaf [] (.w (.c (.lit (.int .i64 12)))))
 (.leaf [] (.w (.c (.lit (.int .i64 0)))))))))))))))))))))))))))))))))))))
 drvFind))
 drvFind))
 drvFind)
 (qrvFind 17 3 0
 (qrvFind 18 2 1
 (qrvFind 19 3 0
 (qrvFind 20 4 1
 drvFind
 (qrvFind 21 3 0
 (qrvFind 22 5 1
 drvFind
 (qrvFind 23 35 0
 drvFind
 (qrvFind 24 35 0
 drvFind
 (qrvFind 25 35 0
 drvFind
 (qrvFind 26 19 0
 drvFind
 (qrvFind 27 19 0
 drvFind
 (qrvFind 28 19 0
 drvFind
 (qrvFind 29 19 0
 drvFind
 (qrvFind 30 19 0
 drvFind
 (qrvFind 31 19 0
 drvFind
 (qrvFind 32 19 0
 drvFind
 (qrvFind 33 19 0
 drvFind
 (qrvFind 34 19 0
 drvFind
 (qrvFind 35 51 0
 drvFind
 (qrvFind 36 51 0
 drvFind
 (qrvFind 37 51 0
 drvFind
 (qrvFind 38 51 0
 drvFind
 (qrvFind 39 51 0
 drvFind
 (qrvFind 40 51 0
 drvFind
 (qrvFind 41 51 0
 drvFind
 (qrvFind 42 51 0
 drvFind
 (qrvFind 43 51 0
 drvFind
 (qrvFind 44 51 0
 drvFind
 (qrvFind 45 51 0
 drvFind
 (qrvFind 46 51 0
 drvFind
 (qrvFind 47 51 0
 drvFind
 (qrvFind 48 51 0
 drvFind
 (qrvFind 49 51 0
 drvFind
 (qrvFind 50 51 0
 drvFind
 (qrvFind 51 51 0
 drvFind
 (qrvFind 52 51 0
 drvFind
 (.nb [.setB0 53 (.all [(.ii (.var 0) (.lit 3)), (.ii (.var 1) (.lit 2)), (.ii (.var 2) (.lit 0))])] 53
 (.leaf [] (.w (.c (.lit (.int .i64 13)))))
 (.leaf [] (.w (.c (.lit (.int .i64 0)))))))))))))))))))))))))))))))))))))
 drvFind))
 drvFind)
 (qrvFind 19 3 0
 (qrvFind 20 4 1
 (qrvFind 21 3 0
 (qrvFind 22 5 1
 drvFind
 (qrvFind 23 35 0
 drvFind
 (qrvFind 24 35 0
 drvFind
 (qrvFind 25 35 0
 drvFind
 (qrvFind 26 19 0
 drvFind
 (qrvFind 27 19 0
 drvFind
 (qrvFind 28 19 0
 drvFind
 (qrvFind 29 19 0
 drvFind
 (qrvFind 30 19 0
 drvFind
 (qrvFind 31 19 0
 drvFind
 (qrvFind 32 19 0
 drvFind
 (qrvFind 33 19 0
 drvFind
 (qrvFind 34 19 0
 drvFind
 (qrvFind 35 51 0
 drvFind
 (qrvFind 36 51 0
 drvFind
 (qrvFind 37 51 0
 drvFind
 (qrvFind 38 51 0
 drvFind
 (qrvFind 39 51 0
 drvFind
 (qrvFind 40 51 0
 drvFind
 (qrvFind 41 51 0
 drvFind
 (qrvFind 42 51 0
 drvFind
 (qrvFind 43 51 0
 drvFind
 (qrvFind 44 51 0
 drvFind
 (qrvFind 45 51 0
 drvFind
 (qrvFind 46 51 0
 drvFind
 (qrvFind 47 51 0
 drvFind
 (qrvFind 48 51 0
 drvFind
 (qrvFind 49 51 0
 drvFind
 (qrvFind 50 51 0
 drvFind
 (qrvFind 51 51 0
 drvFind
 (qrvFind 52 51 0
 drvFind
 (.nb [.setB0 53 (.all [(.ii (.var 0) (.lit 3)), (.ii (.var 1) (.lit 4)), (.ii (.var 2) (.lit 0))])] 53
 (.leaf [] (.w (.c (.lit (.int .i64 14)))))
 (.leaf [] (.w (.c (.lit (.int .i64 0)))))))))))))))))))))))))))))))))))))
 drvFind)
 (qrvFind 21 3 0
 (qrvFind 22 5 1
 (qrvFind 23 35 0
 drvFind
 (qrvFind 24 35 0
 drvFind
 (qrvFind 25 35 0
 drvFind
 (qrvFind 26 19 0
 drvFind
 (qrvFind 27 19 0
 drvFind
 (qrvFind 28 19 0
 drvFind
 (qrvFind 29 19 0
 drvFind
 (qrvFind 30 19 0
 drvFind
 (qrvFind 31 19 0
 drvFind
 (qrvFind 32 19 0
 drvFind
 (qrvFind 33 19 0
 drvFind
 (qrvFind 34 19 0
 drvFind
 (qrvFind 35 51 0
 drvFind
 (qrvFind 36 51 0
 drvFind
 (qrvFind 37 51 0
 drvFind
 (qrvFind 38 51 0
 drvFind
 (qrvFind 39 51 0
 drvFind
 (qrvFind 40 51 0
 drvFind
 (qrvFind 41 51 0
 drvFind
 (qrvFind 42 51 0
 drvFind
 (qrvFind 43 51 0
 drvFind
 (qrvFind 44 51 0
 drvFind
 (qrvFind 45 51 0
 drvFind
 (qrvFind 46 51 0
 drvFind
 (qrvFind 47 51 0
 drvFind
 (qrvFind 48 51 0
 drvFind
 (qrvFind 49 51 0
 drvFind
 (qrvFind 50 51 0
 drvFind
 (qrvFind 51 51 0
 drvFind
 (qrvFind 52 51 0
 drvFind
 (.nb [.setB0 53 (.all [(.ii (.var 0) (.lit 3)), (.ii (.var 1) (.lit 5)), (.ii (.var 2) (.lit 0))])] 53
 (.leaf [] (.w (.c (.lit (.int .i64 15)))))
 (.leaf [] (.w (.c (.lit (.int .i64 0))))))))))))))))))))))))))))))))))))
 (qrvFind 23 35 0
 drvFind
 (qrvFind 24 35 0
 drvFind
 (qrvFind 25 35 0
 drvFind
 (qrvFind 26 19 0
 drvFind
 (qrvFind 27 19 0
 drvFind
 (qrvFind 28 19 0
 drvFind
 (qrvFind 29 19 0
 drvFind
 (qrvFind 30 19 0
 drvFind
 (qrvFind 31 19 0
 drvFind
 (qrvFind 32 19 0
 drvFind
 (qrvFind 33 19 0
 drvFind
 (qrvFind 34 19 0
 drvFind
 (qrvFind 35 51 0
 drvFind
 (qrvFind 36 51 0
 drvFind
 (qrvFind 37 51 0
 drvFind
 (qrvFind 38 51 0
 drvFind
 (qrvFind 39 51 0
 drvFind
 (qrvFind 40 51 0
 drvFind
 (qrvFind 41 51 0
 drvFind
 (qrvFind 42 51 0
 drvFind
 (qrvFind 43 51 0
 drvFind
 (qrvFind 44 51 0
 drvFind
 (qrvFind 45 51 0
 drvFind
 (qrvFind 46 51 0
 drvFind
 (qrvFind 47 51 0
 drvFind
 (qrvFind 48 51 0
 drvFind
 (qrvFind 49 51 0
 drvFind
 (qrvFind 50 51 0
 drvFind
 (qrvFind 51 51 0
 drvFind
 (qrvFind 52 51 0
 drvFind
 (.leaf [] (.w (.c (.lit (.int .i64 0))))))))))))))))))))))))))))))))))))
 drvFind))
 drvFind))
 drvFind))
 drvFind))
 (qrvFind 14 3 0
 drvFind
 (qrvFind 15 3 0
 drvFind
 (qrvFind 16 3 0
 drvFind
 (qrvFind 17 3 0
 drvFind
 rvFindT2)))))))))))
theorem rvFindT3_ok : LT.Ok rvFindR rvFindT3 [.db false, .db false, .db false, .db false] [.decB 6 false, .setB0 6 (.cmp .eql (.lit 103) (.var 0)), .decB 5 false, .setB0 5 (.cmp .eql (.lit 111) (.var 0)), .decB 4 false, .setB0 4 (.cmp .eql (.lit 23) (.var 0)), .decB 3 false, .setB0 3 (.cmp .eql (.lit 55) (.var 0))] :=
 (LT.ok_nb (LT.ok_nb (LT.ok_nb (LT.ok_nb LT.ok_dead
 (LT.ok_nb (LT.ok_nb LT.ok_dead
 (LT.ok_nb (LT.ok_nb LT.ok_dead
 (LT.ok_nb (LT.ok_nb LT.ok_dead
 (LT.ok_nb (LT.ok_nb LT.ok_dead
 (LT.ok_nb LT.ok_dead
 (LT.ok_nb LT.ok_dead
 (LT.ok_nb LT.ok_dead
 (LT.ok_nb LT.ok_dead
 (LT.ok_nb LT.ok_dead
 (LT.ok_nb LT.ok_dead
 (LT.ok_nb LT.ok_dead
 (LT.ok_nb LT.ok_dead
 (LT.ok_nb LT.ok_dead
 (LT.ok_nb LT.ok_dead
 (LT.ok_nb LT.ok_dead
 (LT.ok_nb LT.ok_dead
 (LT.ok_nb LT.ok_dead
 (LT.ok_nb LT.ok_dead
 (LT.ok_nb LT.ok_dead
 (LT.ok_nb LT.ok_dead
 (LT.ok_nb LT.ok_dead
 (LT.ok_nb LT.ok_dead
 (LT.ok_nb LT.ok_dead
 (LT.ok_nb LT.ok_dead
 (LT.ok_nb LT.ok_dead
 (LT.ok_nb LT.ok_dead
 (LT.ok_nb LT.ok_dead
 (LT.ok_nb LT.ok_dead
 (LT.ok_nb LT.ok_dead
 (LT.ok_nb LT.ok_dead
 (LT.ok_nb LT.ok_dead
 (LT.ok_nb LT.ok_dead
 (LT.ok_nb LT.ok_dead
 (LT.ok_nb LT.ok_dead
 (LT.ok_nb LT.ok_dead
 (LT.ok_nb LT.ok_dead
 (LT.ok_nb LT.ok_dead
 (LT.ok_nb LT.ok_dead
 (LT.ok_nb LT.ok_dead
 (LT.ok_nb (LT.ok_leaf (by kernel_rfl))
 (LT.ok_leaf (by kernel_rfl)))))))))))))))))))))))))))))))))))))))
 LT.ok_dead))
 LT.ok_dead))
 LT.ok_dead))
 LT.ok_dead))
 LT.ok_dead)
 (LT.ok_nb (LT.ok_nb (LT.ok_nb (LT.ok_nb LT.ok_dead
 (LT.ok_nb (LT.ok_nb LT.ok_dead
 (LT.ok_nb (LT.ok_nb LT.ok_dead
 (LT.ok_nb (LT.ok_nb LT.ok_dead
 (LT.ok_nb LT.ok_dead
 (LT.ok_nb LT.ok_dead
 (LT.ok_nb LT.ok_dead
 (LT.ok_nb LT.ok_dead
 (LT.ok_nb LT.ok_dead
 (LT.ok_nb LT.ok_dead
 (LT.ok_nb LT.ok_dead
 (LT.ok_nb LT.ok_dead
 (LT.ok_nb LT.ok_dead
 (LT.ok_nb LT.ok_dead
 (LT.ok_nb LT.ok_dead
 (LT.ok_nb LT.ok_dead
 (LT.ok_nb LT.ok_dead
 (LT.ok_nb LT.ok_dead
 (LT.ok_nb LT.ok_dead
 (LT.ok_nb LT.ok_dead
 (LT.ok_nb LT.ok_dead
 (LT.ok_nb LT.ok_dead
 (LT.ok_nb LT.ok_dead
 (LT.ok_nb LT.ok_dead
 (LT.ok_nb LT.ok_dead
 (LT.ok_nb LT.ok_dead
 (LT.ok_nb LT.ok_dead
 (LT.ok_nb LT.ok_dead
 (LT.ok_nb LT.ok_dead
 (LT.ok_nb LT.ok_dead
 (LT.ok_nb LT.ok_dead
 (LT.ok_nb LT.ok_dead
 (LT.ok_nb LT.ok_dead
 (LT.ok_nb LT.ok_dead
 (LT.ok_nb LT.ok_dead
 (LT.ok_nb LT.ok_dead
 (LT.ok_nb LT.ok_dead
 (LT.ok_nb LT.ok_dead
 (LT.ok_nb LT.ok_dead
 (LT.ok_nb (LT.ok_leaf (by kernel_rfl))
 (LT.ok_leaf (by kernel_rfl)))))))))))))))))))))))))))))))))))))))
 LT.ok_dead))
 LT.ok_dead))
 LT.ok_dead))
 LT.ok_dead)
 (LT.ok_nb (LT.ok_nb (LT.ok_nb (LT.ok_nb LT.ok_dead
 (LT.ok_nb (LT.ok_nb LT.ok_dead
 (LT.ok_nb (LT.ok_nb LT.ok_dead
 (LT.ok_nb LT.ok_dead
 (LT.ok_nb LT.ok_dead
 (LT.ok_nb LT.ok_dead
 (LT.ok_nb LT.ok_dead
 (LT.ok_nb LT.ok_dead
 (LT.ok_nb LT.ok_dead
 (LT.ok_nb LT.ok_dead
 (LT.ok_nb LT.ok_dead
 (LT.ok_nb LT.ok_dead
 (LT.ok_nb LT.ok_dead
 (LT.ok_nb LT.ok_dead
 (LT.ok_nb LT.ok_dead
 (LT.ok_nb LT.ok_dead
 (LT.ok_nb LT.ok_dead
 (LT.ok_nb LT.ok_dead
 (LT.ok_nb LT.ok_dead
 (LT.ok_nb LT.ok_dead
 (LT.ok_nb LT.ok_dead
 (LT.ok_nb LT.ok_dead
 (LT.ok_nb LT.ok_dead
 (LT.ok_nb LT.ok_dead
 (LT.ok_nb LT.ok_dead
 (LT.ok_nb LT.ok_dead
 (LT.ok_nb LT.ok_dead
 (LT.ok_nb LT.ok_dead
 (LT.ok_nb LT.ok_dead
 (LT.ok_nb LT.ok_dead
 (LT.ok_nb LT.ok_dead
 (LT.ok_nb LT.ok_dead
 (LT.ok_nb LT.ok_dead
 (LT.ok_nb LT.ok_dead
 (LT.ok_nb LT.ok_dead
 (LT.ok_nb LT.ok_dead
 (LT.ok_nb LT.ok_dead
 (LT.ok_nb LT.ok_dead
 (LT.ok_nb (LT.ok_leaf (by kernel_rfl))
 (LT.ok_leaf (by kernel_rfl)))))))))))))))))))))))))))))))))))))))
 LT.ok_dead))
 LT.ok_dead))
 LT.ok_dead)
 (LT.ok_nb (LT.ok_nb (LT.ok_nb (LT.ok_nb LT.ok_dead
 (LT.ok_nb (LT.ok_nb LT.ok_dead
 (LT.ok_nb LT.ok_dead
 (LT.ok_nb LT.ok_dead
 (LT.ok_nb LT.ok_dead
 (LT.ok_nb LT.ok_dead
 (LT.ok_nb LT.ok_dead
 (LT.ok_nb LT.ok_dead
 (LT.ok_nb LT.ok_dead
 (LT.ok_nb LT.ok_dead
 (LT.ok_nb LT.ok_dead
 (LT.ok_nb LT.ok_dead
 (LT.ok_nb LT.ok_dead
 (LT.ok_nb LT.ok_dead
 (LT.ok_nb LT.ok_dead
 (LT.ok_nb LT.ok_dead
 (LT.ok_nb LT.ok_dead
 (LT.ok_nb LT.ok_dead
 (LT.ok_nb LT.ok_dead
 (LT.ok_nb LT.ok_dead
 (LT.ok_nb LT.ok_dead
 (LT.ok_nb LT.ok_dead
 (LT.ok_nb LT.ok_dead
 (LT.ok_nb LT.ok_dead
 (LT.ok_nb LT.ok_dead
 (LT.ok_nb LT.ok_dead
 (LT.ok_nb LT.ok_dead
 (LT.ok_nb LT.ok_dead
 (LT.ok_nb LT.ok_dead
 (LT.ok_nb LT.ok_dead
 (LT.ok_nb LT.ok_dead
 (LT.ok_nb LT.ok_dead
 (LT.ok_nb LT.ok_dead
 (LT.ok_nb LT.ok_dead
 (LT.ok_nb LT.ok_dead
 (LT.ok_nb LT.ok_dead
 (LT.ok_nb LT.ok_dead
 (LT.ok_nb (LT.ok_leaf (by kernel_rfl))
 (LT.ok_leaf (by kernel_rfl)))))))))))))))))))))))))))))))))))))))
 LT.ok_dead))
 LT.ok_dead)
 (LT.ok_nb (LT.ok_nb (LT.ok_nb (LT.ok_nb LT.ok_dead
 (LT.ok_nb LT.ok_dead
 (LT.ok_nb LT.ok_dead
 (LT.ok_nb LT.ok_dead
 (LT.ok_nb LT.ok_dead
 (LT.ok_nb LT.ok_dead
 (LT.ok_nb LT.ok_dead
 (LT.ok_nb LT.ok_dead
 (LT.ok_nb LT.ok_dead
 (LT.ok_nb LT.ok_dead
 (LT.ok_nb LT.ok_dead
 (LT.ok_nb LT.ok_dead
 (LT.ok_nb LT.ok_dead
 (LT.ok_nb LT.ok_dead
 (LT.ok_nb LT.ok_dead
 (LT.ok_nb LT.ok_dead
 (LT.ok_nb LT.ok_dead
 (LT.ok_nb LT.ok_dead
 (LT.ok_nb LT.ok_dead
 (LT.ok_nb LT.ok_dead
 (LT.ok_nb LT.ok_dead
 (LT.ok_nb LT.ok_dead
 (LT.ok_nb LT.ok_dead
 (LT.ok_nb LT.ok_dead
 (LT.ok_nb LT.ok_dead
 (LT.ok_nb LT.ok_dead
 (LT.ok_nb LT.ok_dead
 (LT.ok_nb LT.ok_dead
 (LT.ok_nb LT.ok_dead
 (LT.ok_nb LT.ok_dead
 (LT.ok_nb LT.ok_dead
 (LT.ok_nb LT.ok_dead
 (LT.ok_nb LT.ok_dead
 (LT.ok_nb LT.ok_dead
 (LT.ok_nb LT.ok_dead
 (LT.ok_nb LT.ok_dead
 (LT.ok_nb (LT.ok_leaf (by kernel_rfl))
 (LT.ok_leaf (by kernel_rfl)))))))))))))))))))))))))))))))))))))))
 LT.ok_dead)
 (LT.ok_nb (LT.ok_nb (LT.ok_nb LT.ok_dead
 (LT.ok_nb LT.ok_dead
 (LT.ok_nb LT.ok_dead
 (LT.ok_nb LT.ok_dead
 (LT.ok_nb LT.ok_dead
 (LT.ok_nb LT.ok_dead
 (LT.ok_nb LT.ok_dead
 (LT.ok_nb LT.ok_dead
 (LT.ok_nb LT.ok_dead
 (LT.ok_nb LT.ok_dead
 (LT.ok_nb LT.ok_dead
 (LT.ok_nb LT.ok_dead
 (LT.ok_nb LT.ok_dead
 (LT.ok_nb LT.ok_dead
 (LT.ok_nb LT.ok_dead
 (LT.ok_nb LT.ok_dead
 (LT.ok_nb LT.ok_dead
 (LT.ok_nb LT.ok_dead
 (LT.ok_nb LT.ok_dead
 (LT.ok_nb LT.ok_dead
 (LT.ok_nb LT.ok_dead
 (LT.ok_nb LT.ok_dead
 (LT.ok_nb LT.ok_dead
 (LT.ok_nb LT.ok_dead
 (LT.ok_nb LT.ok_dead
 (LT.ok_nb LT.ok_dead
 (LT.ok_nb LT.ok_dead
 (LT.ok_nb LT.ok_dead
 (LT.ok_nb LT.ok_dead
 (LT.ok_nb LT.ok_dead
 (LT.ok_nb LT.ok_dead
 (LT.ok_nb LT.ok_dead
 (LT.ok_nb LT.ok_dead
 (LT.ok_nb LT.ok_dead
 (LT.ok_nb LT.ok_dead
 (LT.ok_nb (LT.ok_leaf (by kernel_rfl))
 (LT.ok_leaf (by kernel_rfl))))))))))))))))))))))))))))))))))))))
 (LT.ok_nb LT.ok_dead
 (LT.ok_nb LT.ok_dead
 (LT.ok_nb LT.ok_dead
 (LT.ok_nb LT.ok_dead
 (LT.ok_nb LT.ok_dead
 (LT.ok_nb LT.ok_dead
 (LT.ok_nb LT.ok_dead
 (LT.ok_nb LT.ok_dead
 (LT.ok_nb LT.ok_dead
 (LT.ok_nb LT.ok_dead
 (LT.ok_nb LT.ok_dead
 (LT.ok_nb LT.ok_dead
 (LT.ok_nb LT.ok_dead
 (LT.ok_nb LT.ok_dead
 (LT.ok_nb LT.ok_dead
 (LT.ok_nb LT.ok_dead
 (LT.ok_nb LT.ok_dead
 (LT.ok_nb LT.ok_dead
 (LT.ok_nb LT.ok_dead
 (LT.ok_nb LT.ok_dead
 (LT.ok_nb LT.ok_dead
 (LT.ok_nb LT.ok_dead
 (LT.ok_nb LT.ok_dead
 (LT.ok_nb LT.ok_dead
 (LT.ok_nb LT.ok_dead
 (LT.ok_nb LT.ok_dead
 (LT.ok_nb LT.ok_dead
 (LT.ok_nb LT.ok_dead
 (LT.ok_nb LT.ok_dead
 (LT.ok_nb LT.ok_dead
 (LT.ok_nb LT.ok_dead
 (LT.ok_nb LT.ok_dead
 (LT.ok_nb LT.ok_dead
 (LT.ok_nb LT.ok_dead
 (LT.ok_nb LT.ok_dead
 (LT.ok_leaf (by kernel_rfl))))))))))))))))))))))))))))))))))))))
 LT.ok_dead))
 LT.ok_dead))
 LT.ok_dead))
 LT.ok_dead))
 LT.ok_dead))
 (LT.ok_nb LT.ok_dead
 (LT.ok_nb LT.ok_dead
 (LT.ok_nb LT.ok_dead
 (LT.ok_nb LT.ok_dead
 (LT.ok_nb LT.ok_dead
 (LT.ok_nb (LT.ok_nb (LT.ok_nb (LT.ok_nb LT.ok_dead
 (LT.ok_nb (LT.ok_nb LT.ok_dead
 (LT.ok_nb (LT.ok_nb LT.ok_dead
 (LT.ok_nb (LT.ok_nb LT.ok_dead
 (LT.ok_nb LT.ok_dead
 (LT.ok_nb LT.ok_dead
 (LT.ok_nb LT.ok_dead
 (LT.ok_nb LT.ok_dead
 (LT.ok_nb LT.ok_dead
 (LT.ok_nb LT.ok_dead
 (LT.ok_nb LT.ok_dead
 (LT.ok_nb LT.ok_dead
 (LT.ok_nb LT.ok_dead
 (LT.ok_nb LT.ok_dead
 (LT.ok_nb LT.ok_dead
 (LT.ok_nb LT.ok_dead
 (LT.ok_nb LT.ok_dead
 (LT.ok_nb LT.ok_dead
 (LT.ok_nb LT.ok_dead
 (LT.ok_nb LT.ok_dead
 (LT.ok_nb LT.ok_dead
 (LT.ok_nb LT.ok_dead
 (LT.ok_nb LT.ok_dead
 (LT.ok_nb LT.ok_dead
 (LT.ok_nb LT.ok_dead
 (LT.ok_nb LT.ok_dead
 (LT.ok_nb LT.ok_dead
 (LT.ok_nb LT.ok_dead
 (LT.ok_nb LT.ok_dead
 (LT.ok_nb LT.ok_dead
 (LT.ok_nb LT.ok_dead
 (LT.ok_nb LT.ok_dead
 (LT.ok_nb LT.ok_dead
 (LT.ok_nb LT.ok_dead
 (LT.ok_nb (LT.ok_leaf (by kernel_rfl))
 (LT.ok_leaf (by kernel_rfl))))))))))))))))))))))))))))))))))
 LT.ok_dead))
 LT.ok_dead))
 LT.ok_dead))
 LT.ok_dead)
 (LT.ok_nb (LT.ok_nb (LT.ok_nb (LT.ok_nb LT.ok_dead
 (LT.ok_nb (LT.ok_nb LT.ok_dead
 (LT.ok_nb (LT.ok_nb LT.ok_dead
 (LT.ok_nb LT.ok_dead
 (LT.ok_nb LT.ok_dead
 (LT.ok_nb LT.ok_dead
 (LT.ok_nb LT.ok_dead
 (LT.ok_nb LT.ok_dead
 (LT.ok_nb LT.ok_dead
 (LT.ok_nb LT.ok_dead
 (LT.ok_nb LT.ok_dead
 (LT.ok_nb LT.ok_dead
 (LT.ok_nb LT.ok_dead
 (LT.ok_nb LT.ok_dead
 (LT.ok_nb LT.ok_dead
 (LT.ok_nb LT.ok_dead
 (LT.ok_nb LT.ok_dead
 (LT.ok_nb LT.ok_dead
 (LT.ok_nb LT.ok_dead
 (LT.ok_nb LT.ok_dead
 (LT.ok_nb LT.ok_dead
 (LT.ok_nb LT.ok_dead
 (LT.ok_nb LT.ok_dead
 (LT.ok_nb LT.ok_dead
 (LT.ok_nb LT.ok_dead
 (LT.ok_nb LT.ok_dead
 (LT.ok_nb LT.ok_dead
 (LT.ok_nb LT.ok_dead
 (LT.ok_nb LT.ok_dead
 (LT.ok_nb LT.ok_dead
 (LT.ok_nb LT.ok_dead
 (LT.ok_nb LT.ok_dead
 (LT.ok_nb LT.ok_dead
 (LT.ok_nb (LT.ok_leaf (by kernel_rfl))
 (LT.ok_leaf (by kernel_rfl))))))))))))))))))))))))))))))))))
 LT.ok_dead))
 LT.ok_dead))
 LT.ok_dead)
 (LT.ok_nb (LT.ok_nb (LT.ok_nb (LT.ok_nb LT.ok_dead
 (LT.ok_nb (LT.ok_nb LT.ok_dead
 (LT.ok_nb LT.ok_dead
 (LT.ok_nb LT.ok_dead
 (LT.ok_nb LT.ok_dead
 (LT.ok_nb LT.ok_dead
 (LT.ok_nb LT.ok_dead
 (LT.ok_nb LT.ok_dead
 (LT.ok_nb LT.ok_dead
 (LT.ok_nb LT.ok_dead
 (LT.ok_nb LT.ok_dead
 (LT.ok_nb LT.ok_dead
 (LT.ok_nb LT.ok_dead
 (LT.ok_nb LT.ok_dead
 (LT.ok_nb LT.ok_dead
 (LT.ok_nb LT.ok_dead
 (LT.ok_nb LT.ok_dead
 (LT.ok_nb LT.ok_dead
 (LT.ok_nb LT.ok_dead
 (LT.ok_nb LT.ok_dead
 (LT.ok_nb LT.ok_dead
 (LT.ok_nb LT.ok_dead
 (LT.ok_nb LT.ok_dead
 (LT.ok_nb LT.ok_dead
 (LT.ok_nb LT.ok_dead
 (LT.ok_nb LT.ok_dead
 (LT.ok_nb LT.ok_dead
 (LT.ok_nb LT.ok_dead
 (LT.ok_nb LT.ok_dead
 (LT.ok_nb LT.ok_dead
 (LT.ok_nb LT.ok_dead
 (LT.ok_nb LT.ok_dead
 (LT.ok_nb (LT.ok_leaf (by kernel_rfl))
 (LT.ok_leaf (by kernel_rfl))))))))))))))))))))))))))))))))))
 LT.ok_dead))
 LT.ok_dead)
 (LT.ok_nb (LT.ok_nb (LT.ok_nb (LT.ok_nb LT.ok_dead
 (LT.ok_nb LT.ok_dead
 (LT.ok_nb LT.ok_dead
 (LT.ok_nb LT.ok_dead
 (LT.ok_nb LT.ok_dead
 (LT.ok_nb LT.ok_dead
 (LT.ok_nb LT.ok_dead
 (LT.ok_nb LT.ok_dead
 (LT.ok_nb LT.ok_dead
 (LT.ok_nb LT.ok_dead
 (LT.ok_nb LT.ok_dead
 (LT.ok_nb LT.ok_dead
 (LT.ok_nb LT.ok_dead
 (LT.ok_nb LT.ok_dead
 (LT.ok_nb LT.ok_dead
 (LT.ok_nb LT.ok_dead
 (LT.ok_nb LT.ok_dead
 (LT.ok_nb LT.ok_dead
 (LT.ok_nb LT.ok_dead
 (LT.ok_nb LT.ok_dead
 (LT.ok_nb LT.ok_dead
 (LT.ok_nb LT.ok_dead
 (LT.ok_nb LT.ok_dead
 (LT.ok_nb LT.ok_dead
 (LT.ok_nb LT.ok_dead
 (LT.ok_nb LT.ok_dead
 (LT.ok_nb LT.ok_dead
 (LT.ok_nb LT.ok_dead
 (LT.ok_nb LT.ok_dead
 (LT.ok_nb LT.ok_dead
 (LT.ok_nb LT.ok_dead
 (LT.ok_nb (LT.ok_leaf (by kernel_rfl))
 (LT.ok_leaf (by kernel_rfl))))))))))))))))))))))))))))))))))
 LT.ok_dead)
 (LT.ok_nb (LT.ok_nb (LT.ok_nb LT.ok_dead
 (LT.ok_nb LT.ok_dead
 (LT.ok_nb LT.ok_dead
 (LT.ok_nb LT.ok_dead
 (LT.ok_nb LT.ok_dead
 (LT.ok_nb LT.ok_dead
 (LT.ok_nb LT.ok_dead
 (LT.ok_nb LT.ok_dead
 (LT.ok_nb LT.ok_dead
 (LT.ok_nb LT.ok_dead
 (LT.ok_nb LT.ok_dead
 (LT.ok_nb LT.ok_dead
 (LT.ok_nb LT.ok_dead
 (LT.ok_nb LT.ok_dead
 (LT.ok_nb LT.ok_dead
 (LT.ok_nb LT.ok_dead
 (LT.ok_nb LT.ok_dead
 (LT.ok_nb LT.ok_dead
 (LT.ok_nb LT.ok_dead
 (LT.ok_nb LT.ok_dead
 (LT.ok_nb LT.ok_dead
 (LT.ok_nb LT.ok_dead
 (LT.ok_nb LT.ok_dead
 (LT.ok_nb LT.ok_dead
 (LT.ok_nb LT.ok_dead
 (LT.ok_nb LT.ok_dead
 (LT.ok_nb LT.ok_dead
 (LT.ok_nb LT.ok_dead
 (LT.ok_nb LT.ok_dead
 (LT.ok_nb LT.ok_dead
 (LT.ok_nb (LT.ok_leaf (by kernel_rfl))
 (LT.ok_leaf (by kernel_rfl)))))))))))))))))))))))))))))))))
 (LT.ok_nb LT.ok_dead
 (LT.ok_nb LT.ok_dead
 (LT.ok_nb LT.ok_dead
 (LT.ok_nb LT.ok_dead
 (LT.ok_nb LT.ok_dead
 (LT.ok_nb LT.ok_dead
 (LT.ok_nb LT.ok_dead
 (LT.ok_nb LT.ok_dead
 (LT.ok_nb LT.ok_dead
 (LT.ok_nb LT.ok_dead
 (LT.ok_nb LT.ok_dead
 (LT.ok_nb LT.ok_dead
 (LT.ok_nb LT.ok_dead
 (LT.ok_nb LT.ok_dead
 (LT.ok_nb LT.ok_dead
 (LT.ok_nb LT.ok_dead
 (LT.ok_nb LT.ok_dead
 (LT.ok_nb LT.ok_dead
 (LT.ok_nb LT.ok_dead
 (LT.ok_nb LT.ok_dead
 (LT.ok_nb LT.ok_dead
 (LT.ok_nb LT.ok_dead
 (LT.ok_nb LT.ok_dead
 (LT.ok_nb LT.ok_dead
 (LT.ok_nb LT.ok_dead
 (LT.ok_nb LT.ok_dead
 (LT.ok_nb LT.ok_dead
 (LT.ok_nb LT.ok_dead
 (LT.ok_nb LT.ok_dead
 (LT.ok_nb LT.ok_dead
 (LT.ok_leaf (by kernel_rfl)))))))))))))))))))))))))))))))))
 LT.ok_dead))
 LT.ok_dead))
 LT.ok_dead))
 LT.ok_dead))
 (LT.ok_nb LT.ok_dead
 (LT.ok_nb LT.ok_dead
 (LT.ok_nb LT.ok_dead
 (LT.ok_nb LT.ok_dead
 rvFindT2_ok)))))))))))
noncomputable def rvFindT : LT :=
 (qrvFind 3 55 0
 (qrvFind 4 0 1
 (qrvFind 5 23 0
 drvFind
 (qrvFind 6 111 0
 drvFind
 (qrvFind 7 103 0
 drvFind
 (qrvFind 8 99 0
 drvFind
 (qrvFind 9 99 0
 drvFind
 (qrvFind 10 99 0
 drvFind
 (qrvFind 11 99 0
 drvFind
 (qrvFind 12 99 0
 drvFind
 (qrvFind 13 99 0
 drvFind
 (qrvFind 14 3 0
 drvFind
 (qrvFind 15 3 0
 drvFind
 (qrvFind 16 3 0
 drvFind
 (qrvFind 17 3 0
 drvFind
 (qrvFind 18 3 0
 drvFind
 (qrvFind 19 35 0
 drvFind
 (qrvFind 20 35 0
 drvFind
 (qrvFind 21 35 0
 drvFind
 (qrvFind 22 19 0
 drvFind
 (qrvFind 23 19 0
 drvFind
 (qrvFind 24 19 0
 drvFind
 (qrvFind 25 19 0
 drvFind
 (qrvFind 26 19 0
 drvFind
 (qrvFind 27 19 0
 drvFind
 (qrvFind 28 19 0
 drvFind
 (qrvFind 29 19 0
 drvFind
 (qrvFind 30 19 0
 drvFind
 (qrvFind 31 51 0
 drvFind
 (qrvFind 32 51 0
 drvFind
 (qrvFind 33 51 0
 drvFind
 (qrvFind 34 51 0
 drvFind
 (qrvFind 35 51 0
 drvFind
 (qrvFind 36 51 0
 drvFind
 (qrvFind 37 51 0
 drvFind
 (qrvFind 38 51 0
 drvFind
 (qrvFind 39 51 0
 drvFind
 (qrvFind 40 51 0
 drvFind
 (qrvFind 41 51 0
 drvFind
 (qrvFind 42 51 0
 drvFind
 (qrvFind 43 51 0
 drvFind
 (qrvFind 44 51 0
 drvFind
 (qrvFind 45 51 0
 drvFind
 (qrvFind 46 51 0
 drvFind
 (qrvFind 47 51 0
 drvFind
 (qrvFind 48 51 0
 drvFind
 (.nb [.setB0 49 (.all [(.ii (.var 0) (.lit 55)), (.ii (.var 1) (.lit 0)), (.ii (.var 2) (.lit 0))])] 49
 (.leaf [] (.w (.c (.lit (.int .i64 1)))))
 (.leaf [] (.w (.c (.lit (.int .i64 0))))))))))))))))))))))))))))))))))))))))))))))))))
 (qrvFind 5 23 0
 drvFind
 (qrvFind 6 111 0
 drvFind
 (qrvFind 7 103 0
 drvFind
 (qrvFind 8 99 0
 drvFind
 (qrvFind 9 99 0
 drvFind
 (qrvFind 10 99 0
 drvFind
 (qrvFind 11 99 0
 drvFind
 (qrvFind 12 99 0
 drvFind
 (qrvFind 13 99 0
 drvFind
 (qrvFind 14 3 0
 drvFind
 (qrvFind 15 3 0
 drvFind
 (qrvFind 16 3 0
 drvFind
 (qrvFind 17 3 0
 drvFind
 (qrvFind 18 3 0
 drvFind
 (qrvFind 19 35 0
 drvFind
 (qrvFind 20 35 0
 drvFind
 (qrvFind 21 35 0
 drvFind
 (qrvFind 22 19 0
 drvFind
 (qrvFind 23 19 0
 drvFind
 (qrvFind 24 19 0
 drvFind
 (qrvFind 25 19 0
 drvFind
 (qrvFind 26 19 0
 drvFind
 (qrvFind 27 19 0
 drvFind
 (qrvFind 28 19 0
 drvFind
 (qrvFind 29 19 0
 drvFind
 (qrvFind 30 19 0
 drvFind
 (qrvFind 31 51 0
 drvFind
 (qrvFind 32 51 0
 drvFind
 (qrvFind 33 51 0
 drvFind
 (qrvFind 34 51 0
 drvFind
 (qrvFind 35 51 0
 drvFind
 (qrvFind 36 51 0
 drvFind
 (qrvFind 37 51 0
 drvFind
 (qrvFind 38 51 0
 drvFind
 (qrvFind 39 51 0
 drvFind
 (qrvFind 40 51 0
 drvFind
 (qrvFind 41 51 0
 drvFind
 (qrvFind 42 51 0
 drvFind
 (qrvFind 43 51 0
 drvFind
 (qrvFind 44 51 0
 drvFind
 (qrvFind 45 51 0
 drvFind
 (qrvFind 46 51 0
 drvFind
 (qrvFind 47 51 0
 drvFind
 (qrvFind 48 51 0
 drvFind
 (.leaf [] (.w (.c (.lit (.int .i64 0))))))))))))))))))))))))))))))))))))))))))))))))))
 (qrvFind 4 23 0
 (qrvFind 5 0 1
 (qrvFind 6 111 0
 drvFind
 (qrvFind 7 103 0
 drvFind
 (qrvFind 8 99 0
 drvFind
 (qrvFind 9 99 0
 drvFind
 (qrvFind 10 99 0
 drvFind
 (qrvFind 11 99 0
 drvFind
 (qrvFind 12 99 0
 drvFind
 (qrvFind 13 99 0
 drvFind
 (qrvFind 14 3 0
 drvFind
 (qrvFind 15 3 0
 drvFind
 (qrvFind 16 3 0
 drvFind
 (qrvFind 17 3 0
 drvFind
 (qrvFind 18 3 0
 drvFind
 (qrvFind 19 35 0
 drvFind
 (qrvFind 20 35 0
 drvFind
 (qrvFind 21 35 0
 drvFind
 (qrvFind 22 19 0
 drvFind
 (qrvFind 23 19 0
 drvFind
 (qrvFind 24 19 0
 drvFind
 (qrvFind 25 19 0
 drvFind
 (qrvFind 26 19 0
 drvFind
 (qrvFind 27 19 0
 drvFind
 (qrvFind 28 19 0
 drvFind
 (qrvFind 29 19 0
 drvFind
 (qrvFind 30 19 0
 drvFind
 (qrvFind 31 51 0
 drvFind
 (qrvFind 32 51 0
 drvFind
 (qrvFind 33 51 0
 drvFind
 (qrvFind 34 51 0
 drvFind
 (qrvFind 35 51 0
 drvFind
 (qrvFind 36 51 0
 drvFind
 (qrvFind 37 51 0
 drvFind
 (qrvFind 38 51 0
 drvFind
 (qrvFind 39 51 0
 drvFind
 (qrvFind 40 51 0
 drvFind
 (qrvFind 41 51 0
 drvFind
 (qrvFind 42 51 0
 drvFind
 (qrvFind 43 51 0
 drvFind
 (qrvFind 44 51 0
 drvFind
 (qrvFind 45 51 0
 drvFind
 (qrvFind 46 51 0
 drvFind
 (qrvFind 47 51 0
 drvFind
 (qrvFind 48 51 0
 drvFind
 (.nb [.setB0 49 (.all [(.ii (.var 0) (.lit 23)), (.ii (.var 1) (.lit 0)), (.ii (.var 2) (.lit 0))])] 49
 (.leaf [] (.w (.c (.lit (.int .i64 2)))))
 (.leaf [] (.w (.c (.lit (.int .i64 0)))))))))))))))))))))))))))))))))))))))))))))))))
 (qrvFind 6 111 0
 drvFind
 (qrvFind 7 103 0
 drvFind
 (qrvFind 8 99 0
 drvFind
 (qrvFind 9 99 0
 drvFind
 (qrvFind 10 99 0
 drvFind
 (qrvFind 11 99 0
 drvFind
 (qrvFind 12 99 0
 drvFind
 (qrvFind 13 99 0
 drvFind
 (qrvFind 14 3 0
 drvFind
 (qrvFind 15 3 0
 drvFind
 (qrvFind 16 3 0
 drvFind
 (qrvFind 17 3 0
 drvFind
 (qrvFind 18 3 0
 drvFind
 (qrvFind 19 35 0
 drvFind
 (qrvFind 20 35 0
 drvFind
 (qrvFind 21 35 0
 drvFind
 (qrvFind 22 19 0
 drvFind
 (qrvFind 23 19 0
 drvFind
 (qrvFind 24 19 0
 drvFind
 (qrvFind 25 19 0
 drvFind
 (qrvFind 26 19 0
 drvFind
 (qrvFind 27 19 0
 drvFind
 (qrvFind 28 19 0
 drvFind
 (qrvFind 29 19 0
 drvFind
 (qrvFind 30 19 0
 drvFind
 (qrvFind 31 51 0
 drvFind
 (qrvFind 32 51 0
 drvFind
 (qrvFind 33 51 0
 drvFind
 (qrvFind 34 51 0
 drvFind
 (qrvFind 35 51 0
 drvFind
 (qrvFind 36 51 0
 drvFind
 (qrvFind 37 51 0
 drvFind
 (qrvFind 38 51 0
 drvFind
 (qrvFind 39 51 0
 drvFind
 (qrvFind 40 51 0
 drvFind
 (qrvFind 41 51 0
 drvFind
 (qrvFind 42 51 0
 drvFind
 (qrvFind 43 51 0
 drvFind
 (qrvFind 44 51 0
 drvFind
 (qrvFind 45 51 0
 drvFind
 (qrvFind 46 51 0
 drvFind
 (qrvFind 47 51 0
 drvFind
 (qrvFind 48 51 0
 drvFind
 (.leaf [] (.w (.c (.lit (.int .i64 0)))))))))))))))))))))))))))))))))))))))))))))))))
 (qrvFind 5 111 0
 (qrvFind 6 0 1
 (qrvFind 7 103 0
 drvFind
 (qrvFind 8 99 0
 drvFind
 (qrvFind 9 99 0
 drvFind
 (qrvFind 10 99 0
 drvFind
 (qrvFind 11 99 0
 drvFind
 (qrvFind 12 99 0
 drvFind
 (qrvFind 13 99 0
 drvFind
 (qrvFind 14 3 0
 drvFind
 (qrvFind 15 3 0
 drvFind
 (qrvFind 16 3 0
 drvFind
 (qrvFind 17 3 0
 drvFind
 (qrvFind 18 3 0
 drvFind
 (qrvFind 19 35 0
 drvFind
 (qrvFind 20 35 0
 drvFind
 (qrvFind 21 35 0
 drvFind
 (qrvFind 22 19 0
 drvFind
 (qrvFind 23 19 0
 drvFind
 (qrvFind 24 19 0
 drvFind
 (qrvFind 25 19 0
 drvFind
 (qrvFind 26 19 0
 drvFind
 (qrvFind 27 19 0
 drvFind
 (qrvFind 28 19 0
 drvFind
 (qrvFind 29 19 0
 drvFind
 (qrvFind 30 19 0
 drvFind
 (qrvFind 31 51 0
 drvFind
 (qrvFind 32 51 0
 drvFind
 (qrvFind 33 51 0
 drvFind
 (qrvFind 34 51 0
 drvFind
 (qrvFind 35 51 0
 drvFind
 (qrvFind 36 51 0
 drvFind
 (qrvFind 37 51 0
 drvFind
 (qrvFind 38 51 0
 drvFind
 (qrvFind 39 51 0
 drvFind
 (qrvFind 40 51 0
 drvFind
 (qrvFind 41 51 0
 drvFind
 (qrvFind 42 51 0
 drvFind
 (qrvFind 43 51 0
 drvFind
 (qrvFind 44 51 0
 drvFind
 (qrvFind 45 51 0
 drvFind
 (qrvFind 46 51 0
 drvFind
 (qrvFind 47 51 0
 drvFind
 (qrvFind 48 51 0
 drvFind
 (.nb [.setB0 49 (.all [(.ii (.var 0) (.lit 111)), (.ii (.var 1) (.lit 0)), (.ii (.var 2) (.lit 0))])] 49
 (.leaf [] (.w (.c (.lit (.int .i64 3)))))
 (.leaf [] (.w (.c (.lit (.int .i64 0))))))))))))))))))))))))))))))))))))))))))))))))
 (qrvFind 7 103 0
 drvFind
 (qrvFind 8 99 0
 drvFind
 (qrvFind 9 99 0
 drvFind
 (qrvFind 10 99 0
 drvFind
 (qrvFind 11 99 0
 drvFind
 (qrvFind 12 99 0
 drvFind
 (qrvFind 13 99 0
 drvFind
 (qrvFind 14 3 0
 drvFind
 (qrvFind 15 3 0
 drvFind
 (qrvFind 16 3 0
 drvFind
 (qrvFind 17 3 0
 drvFind
 (qrvFind 18 3 0
 drvFind
 (qrvFind 19 35 0
 drvFind
 (qrvFind 20 35 0
 drvFind
 (qrvFind 21 35 0
 drvFind
 (qrvFind 22 19 0
 drvFind
 (qrvFind 23 19 0
 drvFind
 (qrvFind 24 19 0
 drvFind
 (qrvFind 25 19 0
 drvFind
 (qrvFind 26 19 0
 drvFind
 (qrvFind 27 19 0
 drvFind
 (qrvFind 28 19 0
 drvFind
 (qrvFind 29 19 0
 drvFind
 (qrvFind 30 19 0
 drvFind
 (qrvFind 31 51 0
 drvFind
 (qrvFind 32 51 0
 drvFind
 (qrvFind 33 51 0
 drvFind
 (qrvFind 34 51 0
 drvFind
 (qrvFind 35 51 0
 drvFind
 (qrvFind 36 51 0
 drvFind
 (qrvFind 37 51 0
 drvFind
 (qrvFind 38 51 0
 drvFind
 (qrvFind 39 51 0
 drvFind
 (qrvFind 40 51 0
 drvFind
 (qrvFind 41 51 0
 drvFind
 (qrvFind 42 51 0
 drvFind
 (qrvFind 43 51 0
 drvFind
 (qrvFind 44 51 0
 drvFind
 (qrvFind 45 51 0
 drvFind
 (qrvFind 46 51 0
 drvFind
 (qrvFind 47 51 0
 drvFind
 (qrvFind 48 51 0
 drvFind
 (.leaf [] (.w (.c (.lit (.int .i64 0))))))))))))))))))))))))))))))))))))))))))))))))
 (qrvFind 6 103 0
 (qrvFind 7 0 1
 (qrvFind 8 99 0
 drvFind
 (qrvFind 9 99 0
 drvFind
 (qrvFind 10 99 0
 drvFind
 (qrvFind 11 99 0
 drvFind
 (qrvFind 12 99 0
 drvFind
 (qrvFind 13 99 0
 drvFind
 (qrvFind 14 3 0
 drvFind
 (qrvFind 15 3 0
 drvFind
 (qrvFind 16 3 0
 drvFind
 (qrvFind 17 3 0
 drvFind
 (qrvFind 18 3 0
 drvFind
 (qrvFind 19 35 0
 drvFind
 (qrvFind 20 35 0
 drvFind
 (qrvFind 21 35 0
 drvFind
 (qrvFind 22 19 0
 drvFind
 (qrvFind 23 19 0
 drvFind
 (qrvFind 24 19 0
 drvFind
 (qrvFind 25 19 0
 drvFind
 (qrvFind 26 19 0
 drvFind
 (qrvFind 27 19 0
 drvFind
 (qrvFind 28 19 0
 drvFind
 (qrvFind 29 19 0
 drvFind
 (qrvFind 30 19 0
 drvFind
 (qrvFind 31 51 0
 drvFind
 (qrvFind 32 51 0
 drvFind
 (qrvFind 33 51 0
 drvFind
 (qrvFind 34 51 0
 drvFind
 (qrvFind 35 51 0
 drvFind
 (qrvFind 36 51 0
 drvFind
 (qrvFind 37 51 0
 drvFind
 (qrvFind 38 51 0
 drvFind
 (qrvFind 39 51 0
 drvFind
 (qrvFind 40 51 0
 drvFind
 (qrvFind 41 51 0
 drvFind
 (qrvFind 42 51 0
 drvFind
 (qrvFind 43 51 0
 drvFind
 (qrvFind 44 51 0
 drvFind
 (qrvFind 45 51 0
 drvFind
 (qrvFind 46 51 0
 drvFind
 (qrvFind 47 51 0
 drvFind
 (qrvFind 48 51 0
 drvFind
 (.nb [.setB0 49 (.all [(.ii (.var 0) (.lit 103)), (.ii (.var 1) (.lit 0)), (.ii (.var 2) (.lit 0))])] 49
 (.leaf [] (.w (.c (.lit (.int .i64 4)))))
 (.leaf [] (.w (.c (.lit (.int .i64 0)))))))))))))))))))))))))))))))))))))))))))))))
 (qrvFind 8 99 0
 drvFind
 (qrvFind 9 99 0
 drvFind
 (qrvFind 10 99 0
 drvFind
 (qrvFind 11 99 0
 drvFind
 (qrvFind 12 99 0
 drvFind
 (qrvFind 13 99 0
 drvFind
 (qrvFind 14 3 0
 drvFind
 (qrvFind 15 3 0
 drvFind
 (qrvFind 16 3 0
 drvFind
 (qrvFind 17 3 0
 drvFind
 (qrvFind 18 3 0
 drvFind
 (qrvFind 19 35 0
 drvFind
 (qrvFind 20 35 0
 drvFind
 (qrvFind 21 35 0
 drvFind
 (qrvFind 22 19 0
 drvFind
 (qrvFind 23 19 0
 drvFind
 (qrvFind 24 19 0
 drvFind
 (qrvFind 25 19 0
 drvFind
 (qrvFind 26 19 0
 drvFind
 (qrvFind 27 19 0
 drvFind
 (qrvFind 28 19 0
 drvFind
 (qrvFind 29 19 0
 drvFind
 (qrvFind 30 19 0
 drvFind
 (qrvFind 31 51 0
 drvFind
 (qrvFind 32 51 0
 drvFind
 (qrvFind 33 51 0
 drvFind
 (qrvFind 34 51 0
 drvFind
 (qrvFind 35 51 0
 drvFind
 (qrvFind 36 51 0
 drvFind
 (qrvFind 37 51 0
 drvFind
 (qrvFind 38 51 0
 drvFind
 (qrvFind 39 51 0
 drvFind
 (qrvFind 40 51 0
 drvFind
 (qrvFind 41 51 0
 drvFind
 (qrvFind 42 51 0
 drvFind
 (qrvFind 43 51 0
 drvFind
 (qrvFind 44 51 0
 drvFind
 (qrvFind 45 51 0
 drvFind
 (qrvFind 46 51 0
 drvFind
 (qrvFind 47 51 0
 drvFind
 (qrvFind 48 51 0
 drvFind
 (.leaf [] (.w (.c (.lit (.int .i64 0)))))))))))))))))))))))))))))))))))))))))))))))
 rvFindT3))))
theorem rvFindT_ok : LT.Ok rvFindR rvFindT [] [] :=
 (LT.ok_nb (LT.ok_nb (LT.ok_nb LT.ok_dead
 (LT.ok_nb LT.ok_dead
 (LT.ok_nb LT.ok_dead
 (LT.ok_nb LT.ok_dead
 (LT.ok_nb LT.ok_dead
 (LT.ok_nb LT.ok_dead
 (LT.ok_nb LT.ok_dead
 (LT.ok_nb LT.ok_dead
 (LT.ok_nb LT.ok_dead
 (LT.ok_nb LT.ok_dead
 (LT.ok_nb LT.ok_dead
 (LT.ok_nb LT.ok_dead
 (LT.ok_nb LT.ok_dead
 (LT.ok_nb LT.ok_dead
 (LT.ok_nb LT.ok_dead
 (LT.ok_nb LT.ok_dead
 (LT.ok_nb LT.ok_dead
 (LT.ok_nb LT.ok_dead
 (LT.ok_nb LT.ok_dead
 (LT.ok_nb LT.ok_dead
 (LT.ok_nb LT.ok_dead
 (LT.ok_nb LT.ok_dead
 (LT.ok_nb LT.ok_dead
 (LT.ok_nb LT.ok_dead
 (LT.ok_nb LT.ok_dead
 (LT.ok_nb LT.ok_dead
 (LT.ok_nb LT.ok_dead
 (LT.ok_nb LT.ok_dead
 (LT.ok_nb LT.ok_dead
 (LT.ok_nb LT.ok_dead
 (LT.ok_nb LT.ok_dead
 (LT.ok_nb LT.ok_dead
 (LT.ok_nb LT.ok_dead
 (LT.ok_nb LT.ok_dead
 (LT.ok_nb LT.ok_dead
 (LT.ok_nb LT.ok_dead
 (LT.ok_nb LT.ok_dead
 (LT.ok_nb LT.ok_dead
 (LT.ok_nb LT.ok_dead
 (LT.ok_nb LT.ok_dead
 (LT.ok_nb LT.ok_dead
 (LT.ok_nb LT.ok_dead
 (LT.ok_nb LT.ok_dead
 (LT.ok_nb LT.ok_dead
 (LT.ok_nb (LT.ok_leaf (by kernel_rfl))
 (LT.ok_leaf (by kernel_rfl)))))))))))))))))))))))))))))))))))))))))))))))
 (LT.ok_nb LT.ok_dead
 (LT.ok_nb LT.ok_dead
 (LT.ok_nb LT.ok_dead
 (LT.ok_nb LT.ok_dead
 (LT.ok_nb LT.ok_dead
 (LT.ok_nb LT.ok_dead
 (LT.ok_nb LT.ok_dead
 (LT.ok_nb LT.ok_dead
 (LT.ok_nb LT.ok_dead
 (LT.ok_nb LT.ok_dead
 (LT.ok_nb LT.ok_dead
 (LT.ok_nb LT.ok_dead
 (LT.ok_nb LT.ok_dead
 (LT.ok_nb LT.ok_dead
 (LT.ok_nb LT.ok_dead
 (LT.ok_nb LT.ok_dead
 (LT.ok_nb LT.ok_dead
 (LT.ok_nb LT.ok_dead
 (LT.ok_nb LT.ok_dead
 (LT.ok_nb LT.ok_dead
 (LT.ok_nb LT.ok_dead
 (LT.ok_nb LT.ok_dead
 (LT.ok_nb LT.ok_dead
 (LT.ok_nb LT.ok_dead
 (LT.ok_nb LT.ok_dead
 (LT.ok_nb LT.ok_dead
 (LT.ok_nb LT.ok_dead
 (LT.ok_nb LT.ok_dead
 (LT.ok_nb LT.ok_dead
 (LT.ok_nb LT.ok_dead
 (LT.ok_nb LT.ok_dead
 (LT.ok_nb LT.ok_dead
 (LT.ok_nb LT.ok_dead
 (LT.ok_nb LT.ok_dead
 (LT.ok_nb LT.ok_dead
 (LT.ok_nb LT.ok_dead
 (LT.ok_nb LT.ok_dead
 (LT.ok_nb LT.ok_dead
 (LT.ok_nb LT.ok_dead
 (LT.ok_nb LT.ok_dead
 (LT.ok_nb LT.ok_dead
 (LT.ok_nb LT.ok_dead
 (LT.ok_nb LT.ok_dead
 (LT.ok_nb LT.ok_dead
 (LT.ok_leaf (by kernel_rfl)))))))))))))))))))))))))))))))))))))))))))))))
 (LT.ok_nb (LT.ok_nb (LT.ok_nb LT.ok_dead
 (LT.ok_nb LT.ok_dead
 (LT.ok_nb LT.ok_dead
 (LT.ok_nb LT.ok_dead
 (LT.ok_nb LT.ok_dead
 (LT.ok_nb LT.ok_dead
 (LT.ok_nb LT.ok_dead
 (LT.ok_nb LT.ok_dead
 (LT.ok_nb LT.ok_dead
 (LT.ok_nb LT.ok_dead
 (LT.ok_nb LT.ok_dead
 (LT.ok_nb LT.ok_dead
 (LT.ok_nb LT.ok_dead
 (LT.ok_nb LT.ok_dead
 (LT.ok_nb LT.ok_dead
 (LT.ok_nb LT.ok_dead
 (LT.ok_nb LT.ok_dead
 (LT.ok_nb LT.ok_dead
 (LT.ok_nb LT.ok_dead
 (LT.ok_nb LT.ok_dead
 (LT.ok_nb LT.ok_dead
 (LT.ok_nb LT.ok_dead
 (LT.ok_nb LT.ok_dead
 (LT.ok_nb LT.ok_dead
 (LT.ok_nb LT.ok_dead
 (LT.ok_nb LT.ok_dead
 (LT.ok_nb LT.ok_dead
 (LT.ok_nb LT.ok_dead
 (LT.ok_nb LT.ok_dead
 (LT.ok_nb LT.ok_dead
 (LT.ok_nb LT.ok_dead
 (LT.ok_nb LT.ok_dead
 (LT.ok_nb LT.ok_dead
 (LT.ok_nb LT.ok_dead
 (LT.ok_nb LT.ok_dead
 (LT.ok_nb LT.ok_dead
 (LT.ok_nb LT.ok_dead
 (LT.ok_nb LT.ok_dead
 (LT.ok_nb LT.ok_dead
 (LT.ok_nb LT.ok_dead
 (LT.ok_nb LT.ok_dead
 (LT.ok_nb LT.ok_dead
 (LT.ok_nb LT.ok_dead
 (LT.ok_nb (LT.ok_leaf (by kernel_rfl))
 (LT.ok_leaf (by kernel_rfl))))))))))))))))))))))))))))))))))))))))))))))
 (LT.ok_nb LT.ok_dead
 (LT.ok_nb LT.ok_dead
 (LT.ok_nb LT.ok_dead
 (LT.ok_nb LT.ok_dead
 (LT.ok_nb LT.ok_dead
 (LT.ok_nb LT.ok_dead
 (LT.ok_nb LT.ok_dead
 (LT.ok_nb LT.ok_dead
 (LT.ok_nb LT.ok_dead
 (LT.ok_nb LT.ok_dead
 (LT.ok_nb LT.ok_dead
 (LT.ok_nb LT.ok_dead
 (LT.ok_nb LT.ok_dead
 (LT.ok_nb LT.ok_dead
 (LT.ok_nb LT.ok_dead
 (LT.ok_nb LT.ok_dead
 (LT.ok_nb LT.ok_dead
 (LT.ok_nb LT.ok_dead
 (LT.ok_nb LT.ok_dead
 (LT.ok_nb LT.ok_dead
 (LT.ok_nb LT.ok_dead
 (LT.ok_nb LT.ok_dead
 (LT.ok_nb LT.ok_dead
 (LT.ok_nb LT.ok_dead
 (LT.ok_nb LT.ok_dead
 (LT.ok_nb LT.ok_dead
 (LT.ok_nb LT.ok_dead
 (LT.ok_nb LT.ok_dead
 (LT.ok_nb LT.ok_dead
 (LT.ok_nb LT.ok_dead
 (LT.ok_nb LT.ok_dead
 (LT.ok_nb LT.ok_dead
 (LT.ok_nb LT.ok_dead
 (LT.ok_nb LT.ok_dead
 (LT.ok_nb LT.ok_dead
 (LT.ok_nb LT.ok_dead
 (LT.ok_nb LT.ok_dead
 (LT.ok_nb LT.ok_dead
 (LT.ok_nb LT.ok_dead
 (LT.ok_nb LT.ok_dead
 (LT.ok_nb LT.ok_dead
 (LT.ok_nb LT.ok_dead
 (LT.ok_nb LT.ok_dead
 (LT.ok_leaf (by kernel_rfl))))))))))))))))))))))))))))))))))))))))))))))
 (LT.ok_nb (LT.ok_nb (LT.ok_nb LT.ok_dead
 (LT.ok_nb LT.ok_dead
 (LT.ok_nb LT.ok_dead
 (LT.ok_nb LT.ok_dead
 (LT.ok_nb LT.ok_dead
 (LT.ok_nb LT.ok_dead
 (LT.ok_nb LT.ok_dead
 (LT.ok_nb LT.ok_dead
 (LT.ok_nb LT.ok_dead
 (LT.ok_nb LT.ok_dead
 (LT.ok_nb LT.ok_dead
 (LT.ok_nb LT.ok_dead
 (LT.ok_nb LT.ok_dead
 (LT.ok_nb LT.ok_dead
 (LT.ok_nb LT.ok_dead
 (LT.ok_nb LT.ok_dead
 (LT.ok_nb LT.ok_dead
 (LT.ok_nb LT.ok_dead
 (LT.ok_nb LT.ok_dead
 (LT.ok_nb LT.ok_dead
 (LT.ok_nb LT.ok_dead
 (LT.ok_nb LT.ok_dead
 (LT.ok_nb LT.ok_dead
 (LT.ok_nb LT.ok_dead
 (LT.ok_nb LT.ok_dead
 (LT.ok_nb LT.ok_dead
 (LT.ok_nb LT.ok_dead
 (LT.ok_nb LT.ok_dead
 (LT.ok_nb LT.ok_dead
 (LT.ok_nb LT.ok_dead
 (LT.ok_nb LT.ok_dead
 (LT.ok_nb LT.ok_dead
 (LT.ok_nb LT.ok_dead
 (LT.ok_nb LT.ok_dead
 (LT.ok_nb LT.ok_dead
 (LT.ok_nb LT.ok_dead
 (LT.ok_nb LT.ok_dead
 (LT.ok_nb LT.ok_dead
 (LT.ok_nb LT.ok_dead
 (LT.ok_nb LT.ok_dead
 (LT.ok_nb LT.ok_dead
 (LT.ok_nb LT.ok_dead
 (LT.ok_nb (LT.ok_leaf (by kernel_rfl))
 (LT.ok_leaf (by kernel_rfl)))))))))))))))))))))))))))))))))))))))))))))
 (LT.ok_nb LT.ok_dead
 (LT.ok_nb LT.ok_dead
 (LT.ok_nb LT.ok_dead
 (LT.ok_nb LT.ok_dead
 (LT.ok_nb LT.ok_dead
 (LT.ok_nb LT.ok_dead
 (LT.ok_nb LT.ok_dead
 (LT.ok_nb LT.ok_dead
 (LT.ok_nb LT.ok_dead
 (LT.ok_nb LT.ok_dead
 (LT.ok_nb LT.ok_dead
 (LT.ok_nb LT.ok_dead
 (LT.ok_nb LT.ok_dead
 (LT.ok_nb LT.ok_dead
 (LT.ok_nb LT.ok_dead
 (LT.ok_nb LT.ok_dead
 (LT.ok_nb LT.ok_dead
 (LT.ok_nb LT.ok_dead
 (LT.ok_nb LT.ok_dead
 (LT.ok_nb LT.ok_dead
 (LT.ok_nb LT.ok_dead
 (LT.ok_nb LT.ok_dead
 (LT.ok_nb LT.ok_dead
 (LT.ok_nb LT.ok_dead
 (LT.ok_nb LT.ok_dead
 (LT.ok_nb LT.ok_dead
 (LT.ok_nb LT.ok_dead
 (LT.ok_nb LT.ok_dead
 (LT.ok_nb LT.ok_dead
 (LT.ok_nb LT.ok_dead
 (LT.ok_nb LT.ok_dead
 (LT.ok_nb LT.ok_dead
 (LT.ok_nb LT.ok_dead
 (LT.ok_nb LT.ok_dead
 (LT.ok_nb LT.ok_dead
 (LT.ok_nb LT.ok_dead
 (LT.ok_nb LT.ok_dead
 (LT.ok_nb LT.ok_dead
 (LT.ok_nb LT.ok_dead
 (LT.ok_nb LT.ok_dead
 (LT.ok_nb LT.ok_dead
 (LT.ok_nb LT.ok_dead
 (LT.ok_leaf (by kernel_rfl)))))))))))))))))))))))))))))))))))))))))))))
 (LT.ok_nb (LT.ok_nb (LT.ok_nb LT.ok_dead
 (LT.ok_nb LT.ok_dead
 (LT.ok_nb LT.ok_dead
 (LT.ok_nb LT.ok_dead
 (LT.ok_nb LT.ok_dead
 (LT.ok_nb LT.ok_dead
 (LT.ok_nb LT.ok_dead
 (LT.ok_nb LT.ok_dead
 (LT.ok_nb LT.ok_dead
 (LT.ok_nb LT.ok_dead
 (LT.ok_nb LT.ok_dead
 (LT.ok_nb LT.ok_dead
 (LT.ok_nb LT.ok_dead
 (LT.ok_nb LT.ok_dead
 (LT.ok_nb LT.ok_dead
 (LT.ok_nb LT.ok_dead
 (LT.ok_nb LT.ok_dead
 (LT.ok_nb LT.ok_dead
 (LT.ok_nb LT.ok_dead
 (LT.ok_nb LT.ok_dead
 (LT.ok_nb LT.ok_dead
 (LT.ok_nb LT.ok_dead
 (LT.ok_nb LT.ok_dead
 (LT.ok_nb LT.ok_dead
 (LT.ok_nb LT.ok_dead
 (LT.ok_nb LT.ok_dead
 (LT.ok_nb LT.ok_dead
 (LT.ok_nb LT.ok_dead
 (LT.ok_nb LT.ok_dead
 (LT.ok_nb LT.ok_dead
 (LT.ok_nb LT.ok_dead
 (LT.ok_nb LT.ok_dead
 (LT.ok_nb LT.ok_dead
 (LT.ok_nb LT.ok_dead
 (LT.ok_nb LT.ok_dead
 (LT.ok_nb LT.ok_dead
 (LT.ok_nb LT.ok_dead
 (LT.ok_nb LT.ok_dead
 (LT.ok_nb LT.ok_dead
 (LT.ok_nb LT.ok_dead
 (LT.ok_nb LT.ok_dead
 (LT.ok_nb (LT.ok_leaf (by kernel_rfl))
 (LT.ok_leaf (by kernel_rfl))))))))))))))))))))))))))))))))))))))))))))
 (LT.ok_nb LT.ok_dead
 (LT.ok_nb LT.ok_dead
 (LT.ok_nb LT.ok_dead
 (LT.ok_nb LT.ok_dead
 (LT.ok_nb LT.ok_dead
 (LT.ok_nb LT.ok_dead
 (LT.ok_nb LT.ok_dead
 (LT.ok_nb LT.ok_dead
 (LT.ok_nb LT.ok_dead
 (LT.ok_nb LT.ok_dead
 (LT.ok_nb LT.ok_dead
 (LT.ok_nb LT.ok_dead
 (LT.ok_nb LT.ok_dead
 (LT.ok_nb LT.ok_dead
 (LT.ok_nb LT.ok_dead
 (LT.ok_nb LT.ok_dead
 (LT.ok_nb LT.ok_dead
 (LT.ok_nb LT.ok_dead
 (LT.ok_nb LT.ok_dead
 (LT.ok_nb LT.ok_dead
 (LT.ok_nb LT.ok_dead
 (LT.ok_nb LT.ok_dead
 (LT.ok_nb LT.ok_dead
 (LT.ok_nb LT.ok_dead
 (LT.ok_nb LT.ok_dead
 (LT.ok_nb LT.ok_dead
 (LT.ok_nb LT.ok_dead
 (LT.ok_nb LT.ok_dead
 (LT.ok_nb LT.ok_dead
 (LT.ok_nb LT.ok_dead
 (LT.ok_nb LT.ok_dead
 (LT.ok_nb LT.ok_dead
 (LT.ok_nb LT.ok_dead
 (LT.ok_nb LT.ok_dead
 (LT.ok_nb LT.ok_dead
 (LT.ok_nb LT.ok_dead
 (LT.ok_nb LT.ok_dead
 (LT.ok_nb LT.ok_dead
 (LT.ok_nb LT.ok_dead
 (LT.ok_nb LT.ok_dead
 (LT.ok_nb LT.ok_dead
 (LT.ok_leaf (by kernel_rfl))))))))))))))))))))))))))))))))))))))))))))
 rvFindT3_ok))))
theorem rvFind_ok : SumT Try.prog phi 70 rvFindS := treeSum (t := rvFindT) (lf := 1000) (d := 20) rvFindC_ok (fun xs w => Try.call70 xs w)
 rvFindT_ok
 (by kernel_rfl)
 (by
  intro a0 h0 a1 h1 a2 h2
  exact ⟨obl_nil (by kernel_rfl), by kernel_rfl⟩)
end Go.Proofs.Ytpclikbjpjoccaa
