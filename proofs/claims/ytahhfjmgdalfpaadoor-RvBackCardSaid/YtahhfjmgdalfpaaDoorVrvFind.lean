/-
  ferryman/rv.find: all its ways, printed by a program of this repo.
-/
import Derived.Test.YtahhfjmgdalfpaaDoorBase
namespace Go.Proofs.YtahhfjmgdalfpaaDoor
open Go.Sx
set_option linter.unusedVariables false
set_option linter.unusedSimpArgs false
set_option maxRecDepth 100000
set_option maxHeartbeats 20000000
noncomputable def rvFindC : Ctx := ⟨tys, fns, (.e : Tr Sum)⟩
theorem rvFindC_ok : CtxT Tryd.prog phi rvFindC := ⟨tys_ok, fns_ok, SumsT.e, mix_ok⟩
noncomputable def rvFindR (ds : List D) : R (SV × St) := fnRun rvFindC 1000 20 44 (symArgs rvFindS.args 0) (st0 ds 3)
noncomputable def rvFindT0 : LT :=
 (.nb [.setB0 24 (.cmp .eql (.lit 2) (.var 1))] 24
 (.nb [.setB0 25 (.cmp .eql (.lit 19) (.var 0))] 25
 (.nb [.setB0 26 (.cmp .eql (.lit 3) (.var 1))] 26
 (.dead [])
 (.nb [.setB0 27 (.cmp .eql (.lit 19) (.var 0))] 27
 (.nb [.setB0 28 (.cmp .eql (.lit 4) (.var 1))] 28
 (.dead [])
 (.nb [.setB0 29 (.cmp .eql (.lit 19) (.var 0))] 29
 (.nb [.setB0 30 (.cmp .eql (.lit 6) (.var 1))] 30
 (.dead [])
 (.nb [.setB0 31 (.cmp .eql (.lit 19) (.var 0))] 31
 (.nb [.setB0 32 (.cmp .eql (.lit 7) (.var 1))] 32
 (.dead [])
 (.nb [.setB0 33 (.cmp .eql (.lit 19) (.var 0))] 33
 (.nb [.setB0 34 (.cmp .eql (.lit 1) (.var 1))] 34
 (.dead [])
 (.nb [.setB0 35 (.cmp .eql (.lit 19) (.var 0))] 35
 (.nb [.setB0 36 (.cmp .eql (.lit 5) (.var 1))] 36
 (.dead [])
 (.nb [.setB0 37 (.cmp .eql (.lit 19) (.var 0))] 37
 (.nb [.setB0 38 (.cmp .eql (.lit 5) (.var 1))] 38
 (.dead [])
 (.nb [.setB0 39 (.cmp .eql (.lit 51) (.var 0))] 39
 (.dead [])
 (.nb [.setB0 40 (.cmp .eql (.lit 51) (.var 0))] 40
 (.dead [])
 (.nb [.setB0 41 (.cmp .eql (.lit 51) (.var 0))] 41
 (.dead [])
 (.nb [.setB0 42 (.cmp .eql (.lit 51) (.var 0))] 42
 (.dead [])
 (.nb [.setB0 43 (.cmp .eql (.lit 51) (.var 0))] 43
 (.dead [])
 (.nb [.setB0 44 (.cmp .eql (.lit 51) (.var 0))] 44
 (.dead [])
 (.nb [.setB0 45 (.cmp .eql (.lit 51) (.var 0))] 45
 (.dead [])
 (.nb [.setB0 46 (.cmp .eql (.lit 51) (.var 0))] 46
 (.dead [])
 (.nb [.setB0 47 (.cmp .eql (.lit 51) (.var 0))] 47
 (.dead [])
 (.nb [.setB0 48 (.cmp .eql (.lit 51) (.var 0))] 48
 (.dead [])
 (.nb [.setB0 49 (.cmp .eql (.lit 51) (.var 0))] 49
 (.dead [])
 (.nb [.setB0 50 (.cmp .eql (.lit 51) (.var 0))] 50
 (.dead [])
 (.nb [.setB0 51 (.cmp .eql (.lit 51) (.var 0))] 51
 (.dead [])
 (.nb [.setB0 52 (.cmp .eql (.lit 51) (.var 0))] 52
 (.dead [])
 (.nb [.setB0 53 (.cmp .eql (.lit 51) (.var 0))] 53
 (.dead [])
 (.nb [.setB0 54 (.cmp .eql (.lit 51) (.var 0))] 54
 (.dead [])
 (.nb [.setB0 55 (.cmp .eql (.lit 51) (.var 0))] 55
 (.dead [])
 (.nb [.setB0 56 (.cmp .eql (.lit 51) (.var 0))] 56
 (.dead [])
 (.nb [.setB0 57 (.all [(.ii (.var 0) (.lit 19)), (.ii (.var 1) (.lit 2)), (.ii (.var 2) (.lit 0))])] 57
 (.leaf [] (.w (.c (.lit (.int .i64 20)))))
 (.leaf [] (.w (.c (.lit (.int .i64 0)))))))))))))))))))))))))
 (.dead [])))
 (.dead [])))
 (.dead [])))
 (.dead [])))
 (.dead [])))
 (.dead [])))
 (.dead []))
 (.nb [.setB0 25 (.cmp .eql (.lit 19) (.var 0))] 25
 (.nb [.setB0 26 (.cmp .eql (.lit 3) (.var 1))] 26
 (.nb [.setB0 27 (.cmp .eql (.lit 19) (.var 0))] 27
 (.nb [.setB0 28 (.cmp .eql (.lit 4) (.var 1))] 28
 (.dead [])
 (.nb [.setB0 29 (.cmp .eql (.lit 19) (.var 0))] 29
 (.nb [.setB0 30 (.cmp .eql (.lit 6) (.var 1))] 30
 (.dead [])
 (.nb [.setB0 31 (.cmp .eql (.lit 19) (.var 0))] 31
 (.nb [.setB0 32 (.cmp .eql (.lit 7) (.var 1))] 32
 (.dead [])
 (.nb [.setB0 33 (.cmp .eql (.lit 19) (.var 0))] 33
 (.nb [.setB0 34 (.cmp .eql (.lit 1) (.var 1))] 34
 (.dead [])
 (.nb [.setB0 35 (.cmp .eql (.lit 19) (.var 0))] 35
 (.nb [.setB0 36 (.cmp .eql (.lit 5) (.var 1))] 36
 (.dead [])
 (.nb [.setB0 37 (.cmp .eql (.lit 19) (.var 0))] 37
 (.nb [.setB0 38 (.cmp .eql (.lit 5) (.var 1))] 38
 (.dead [])
 (.nb [.setB0 39 (.cmp .eql (.lit 51) (.var 0))] 39
 (.dead [])
 (.nb [.setB0 40 (.cmp .eql (.lit 51) (.var 0))] 40
 (.dead [])
 (.nb [.setB0 41 (.cmp .eql (.lit 51) (.var 0))] 41
 (.dead [])
 (.nb [.setB0 42 (.cmp .eql (.lit 51) (.var 0))] 42
 (.dead [])
 (.nb [.setB0 43 (.cmp .eql (.lit 51) (.var 0))] 43
 (.dead [])
 (.nb [.setB0 44 (.cmp .eql (.lit 51) (.var 0))] 44
 (.dead [])
 (.nb [.setB0 45 (.cmp .eql (.lit 51) (.var 0))] 45
 (.dead [])
 (.nb [.setB0 46 (.cmp .eql (.lit 51) (.var 0))] 46
 (.dead [])
 (.nb [.setB0 47 (.cmp .eql (.lit 51) (.var 0))] 47
 (.dead [])
 (.nb [.setB0 48 (.cmp .eql (.lit 51) (.var 0))] 48
 (.dead [])
 (.nb [.setB0 49 (.cmp .eql (.lit 51) (.var 0))] 49
 (.dead [])
 (.nb [.setB0 50 (.cmp .eql (.lit 51) (.var 0))] 50
 (.dead [])
 (.nb [.setB0 51 (.cmp .eql (.lit 51) (.var 0))] 51
 (.dead [])
 (.nb [.setB0 52 (.cmp .eql (.lit 51) (.var 0))] 52
 (.dead [])
 (.nb [.setB0 53 (.cmp .eql (.lit 51) (.var 0))] 53
 (.dead [])
 (.nb [.setB0 54 (.cmp .eql (.lit 51) (.var 0))] 54
 (.dead [])
 (.nb [.setB0 55 (.cmp .eql (.lit 51) (.var 0))] 55
 (.dead [])
 (.nb [.setB0 56 (.cmp .eql (.lit 51) (.var 0))] 56
 (.dead [])
 (.nb [.setB0 57 (.all [(.ii (.var 0) (.lit 19)), (.ii (.var 1) (.lit 3)), (.ii (.var 2) (.lit 0))])] 57
 (.leaf [] (.w (.c (.lit (.int .i64 21)))))
 (.leaf [] (.w (.c (.lit (.int .i64 0)))))))))))))))))))))))))
 (.dead [])))
 (.dead [])))
 (.dead [])))
 (.dead [])))
 (.dead [])))
 (.dead []))
 (.nb [.setB0 27 (.cmp .eql (.lit 19) (.var 0))] 27
 (.nb [.setB0 28 (.cmp .eql (.lit 4) (.var 1))] 28
 (.nb [.setB0 29 (.cmp .eql (.lit 19) (.var 0))] 29
 (.nb [.setB0 30 (.cmp .eql (.lit 6) (.var 1))] 30
 (.dead [])
 (.nb [.setB0 31 (.cmp .eql (.lit 19) (.var 0))] 31
 (.nb [.setB0 32 (.cmp .eql (.lit 7) (.var 1))] 32
 (.dead [])
 (.nb [.setB0 33 (.cmp .eql (.lit 19) (.var 0))] 33
 (.nb [.setB0 34 (.cmp .eql (.lit 1) (.var 1))] 34
 (.dead [])
 (.nb [.setB0 35 (.cmp .eql (.lit 19) (.var 0))] 35
 (.nb [.setB0 36 (.cmp .eql (.lit 5) (.var 1))] 36
 (.dead [])
 (.nb [.setB0 37 (.cmp .eql (.lit 19) (.var 0))] 37
 (.nb [.setB0 38 (.cmp .eql (.lit 5) (.var 1))] 38
 (.dead [])
 (.nb [.setB0 39 (.cmp .eql (.lit 51) (.var 0))] 39
 (.dead [])
 (.nb [.setB0 40 (.cmp .eql (.lit 51) (.var 0))] 40
 (.dead [])
 (.nb [.setB0 41 (.cmp .eql (.lit 51) (.var 0))] 41
 (.dead [])
 (.nb [.setB0 42 (.cmp .eql (.lit 51) (.var 0))] 42
 (.dead [])
 (.nb [.setB0 43 (.cmp .eql (.lit 51) (.var 0))] 43
 (.dead [])
 (.nb [.setB0 44 (.cmp .eql (.lit 51) (.var 0))] 44
 (.dead [])
 (.nb [.setB0 45 (.cmp .eql (.lit 51) (.var 0))] 45
 (.dead [])
 (.nb [.setB0 46 (.cmp .eql (.lit 51) (.var 0))] 46
 (.dead [])
 (.nb [.setB0 47 (.cmp .eql (.lit 51) (.var 0))] 47
 (.dead [])
 (.nb [.setB0 48 (.cmp .eql (.lit 51) (.var 0))] 48
 (.dead [])
 (.nb [.setB0 49 (.cmp .eql (.lit 51) (.var 0))] 49
 (.dead [])
 (.nb [.setB0 50 (.cmp .eql (.lit 51) (.var 0))] 50
 (.dead [])
 (.nb [.setB0 51 (.cmp .eql (.lit 51) (.var 0))] 51
 (.dead [])
 (.nb [.setB0 52 (.cmp .eql (.lit 51) (.var 0))] 52
 (.dead [])
 (.nb [.setB0 53 (.cmp .eql (.lit 51) (.var 0))] 53
 (.dead [])
 (.nb [.setB0 54 (.cmp .eql (.lit 51) (.var 0))] 54
 (.dead [])
 (.nb [.setB0 55 (.cmp .eql (.lit 51) (.var 0))] 55
 (.dead [])
 (.nb [.setB0 56 (.cmp .eql (.lit 51) (.var 0))] 56
 (.dead [])
 (.nb [.setB0 57 (.all [(.ii (.var 0) (.lit 19)), (.ii (.var 1) (.lit 4)), (.ii (.var 2) (.lit 0))])] 57
 (.leaf [] (.w (.c (.lit (.int .i64 22)))))
 (.leaf [] (.w (.c (.lit (.int .i64 0)))))))))))))))))))))))))
 (.dead [])))
 (.dead [])))
 (.dead [])))
 (.dead [])))
 (.dead []))
 (.nb [.setB0 29 (.cmp .eql (.lit 19) (.var 0))] 29
 (.nb [.setB0 30 (.cmp .eql (.lit 6) (.var 1))] 30
 (.nb [.setB0 31 (.cmp .eql (.lit 19) (.var 0))] 31
 (.nb [.setB0 32 (.cmp .eql (.lit 7) (.var 1))] 32
 (.dead [])
 (.nb [.setB0 33 (.cmp .eql (.lit 19) (.var 0))] 33
 (.nb [.setB0 34 (.cmp .eql (.lit 1) (.var 1))] 34
 (.dead [])
 (.nb [.setB0 35 (.cmp .eql (.lit 19) (.var 0))] 35
 (.nb [.setB0 36 (.cmp .eql (.lit 5) (.var 1))] 36
 (.dead [])
 (.nb [.setB0 37 (.cmp .eql (.lit 19) (.var 0))] 37
 (.nb [.setB0 38 (.cmp .eql (.lit 5) (.var 1))] 38
 (.dead [])
 (.nb [.setB0 39 (.cmp .eql (.lit 51) (.var 0))] 39
 (.dead [])
 (.nb [.setB0 40 (.cmp .eql (.lit 51) (.var 0))] 40
 (.dead [])
 (.nb [.setB0 41 (.cmp .eql (.lit 51) (.var 0))] 41
 (.dead [])
 (.nb [.setB0 42 (.cmp .eql (.lit 51) (.var 0))] 42
 (.dead [])
 (.nb [.setB0 43 (.cmp .eql (.lit 51) (.var 0))] 43
 (.dead [])
 (.nb [.setB0 44 (.cmp .eql (.lit 51) (.var 0))] 44
 (.dead [])
 (.nb [.setB0 45 (.cmp .eql (.lit 51) (.var 0))] 45
 (.dead [])
 (.nb [.setB0 46 (.cmp .eql (.lit 51) (.var 0))] 46
 (.dead [])
 (.nb [.setB0 47 (.cmp .eql (.lit 51) (.var 0))] 47
 (.dead [])
 (.nb [.setB0 48 (.cmp .eql (.lit 51) (.var 0))] 48
 (.dead [])
 (.nb [.setB0 49 (.cmp .eql (.lit 51) (.var 0))] 49
 (.dead [])
 (.nb [.setB0 50 (.cmp .eql (.lit 51) (.var 0))] 50
 (.dead [])
 (.nb [.setB0 51 (.cmp .eql (.lit 51) (.var 0))] 51
 (.dead [])
 (.nb [.setB0 52 (.cmp .eql (.lit 51) (.var 0))] 52
 (.dead [])
 (.nb [.setB0 53 (.cmp .eql (.lit 51) (.var 0))] 53
 (.dead [])
 (.nb [.setB0 54 (.cmp .eql (.lit 51) (.var 0))] 54
 (.dead [])
 (.nb [.setB0 55 (.cmp .eql (.lit 51) (.var 0))] 55
 (.dead [])
 (.nb [.setB0 56 (.cmp .eql (.lit 51) (.var 0))] 56
 (.dead [])
 (.nb [.setB0 57 (.all [(.ii (.var 0) (.lit 19)), (.ii (.var 1) (.lit 6)), (.ii (.var 2) (.lit 0))])] 57
 (.leaf [] (.w (.c (.lit (.int .i64 23)))))
 (.leaf [] (.w (.c (.lit (.int .i64 0)))))))))))))))))))))))))
 (.dead [])))
 (.dead [])))
 (.dead [])))
 (.dead []))
 (.nb [.setB0 31 (.cmp .eql (.lit 19) (.var 0))] 31
 (.nb [.setB0 32 (.cmp .eql (.lit 7) (.var 1))] 32
 (.nb [.setB0 33 (.cmp .eql (.lit 19) (.var 0))] 33
 (.nb [.setB0 34 (.cmp .eql (.lit 1) (.var 1))] 34
 (.dead [])
 (.nb [.setB0 35 (.cmp .eql (.lit 19) (.var 0))] 35
 (.nb [.setB0 36 (.cmp .eql (.lit 5) (.var 1))] 36
 (.dead [])
 (.nb [.setB0 37 (.cmp .eql (.lit 19) (.var 0))] 37
 (.nb [.setB0 38 (.cmp .eql (.lit 5) (.var 1))] 38
 (.dead [])
 (.nb [.setB0 39 (.cmp .eql (.lit 51) (.var 0))] 39
 (.dead [])
 (.nb [.setB0 40 (.cmp .eql (.lit 51) (.var 0))] 40
 (.dead [])
 (.nb [.setB0 41 (.cmp .eql (.lit 51) (.var 0))] 41
 (.dead [])
 (.nb [.setB0 42 (.cmp .eql (.lit 51) (.var 0))] 42
 (.dead [])
 (.nb [.setB0 43 (.cmp .eql (.lit 51) (.var 0))] 43
 (.dead [])
 (.nb [.setB0 44 (.cmp .eql (.lit 51) (.var 0))] 44
 (.dead [])
 (.nb [.setB0 45 (.cmp .eql (.lit 51) (.var 0))] 45
 (.dead [])
 (.nb [.setB0 46 (.cmp .eql (.lit 51) (.var 0))] 46
 (.dead [])
 (.nb [.setB0 47 (.cmp .eql (.lit 51) (.var 0))] 47
 (.dead [])
 (.nb [.setB0 48 (.cmp .eql (.lit 51) (.var 0))] 48
 (.dead [])
 (.nb [.setB0 49 (.cmp .eql (.lit 51) (.var 0))] 49
 (.dead [])
 (.nb [.setB0 50 (.cmp .eql (.lit 51) (.var 0))] 50
 (.dead [])
 (.nb [.setB0 51 (.cmp .eql (.lit 51) (.var 0))] 51
 (.dead [])
 (.nb [.setB0 52 (.cmp .eql (.lit 51) (.var 0))] 52
 (.dead [])
 (.nb [.setB0 53 (.cmp .eql (.lit 51) (.var 0))] 53
 (.dead [])
 (.nb [.setB0 54 (.cmp .eql (.lit 51) (.var 0))] 54
 (.dead [])
 (.nb [.setB0 55 (.cmp .eql (.lit 51) (.var 0))] 55
 (.dead [])
 (.nb [.setB0 56 (.cmp .eql (.lit 51) (.var 0))] 56
 (.dead [])
 (.nb [.setB0 57 (.all [(.ii (.var 0) (.lit 19)), (.ii (.var 1) (.lit 7)), (.ii (.var 2) (.lit 0))])] 57
 (.leaf [] (.w (.c (.lit (.int .i64 24)))))
 (.leaf [] (.w (.c (.lit (.int .i64 0)))))))))))))))))))))))))
 (.dead [])))
 (.dead [])))
 (.dead []))
 (.nb [.setB0 33 (.cmp .eql (.lit 19) (.var 0))] 33
 (.nb [.setB0 34 (.cmp .eql (.lit 1) (.var 1))] 34
 (.nb [.setB0 35 (.cmp .eql (.lit 19) (.var 0))] 35
 (.nb [.setB0 36 (.cmp .eql (.lit 5) (.var 1))] 36
 (.dead [])
 (.nb [.setB0 37 (.cmp .eql (.lit 19) (.var 0))] 37
 (.nb [.setB0 38 (.cmp .eql (.lit 5) (.var 1))] 38
 (.dead [])
 (.nb [.setB0 39 (.cmp .eql (.lit 51) (.var 0))] 39
 (.dead [])
 (.nb [.setB0 40 (.cmp .eql (.lit 51) (.var 0))] 40
 (.dead [])
 (.nb [.setB0 41 (.cmp .eql (.lit 51) (.var 0))] 41
 (.dead [])
 (.nb [.setB0 42 (.cmp .eql (.lit 51) (.var 0))] 42
 (.dead [])
 (.nb [.setB0 43 (.cmp .eql (.lit 51) (.var 0))] 43
 (.dead [])
 (.nb [.setB0 44 (.cmp .eql (.lit 51) (.var 0))] 44
 (.dead [])
 (.nb [.setB0 45 (.cmp .eql (.lit 51) (.var 0))] 45
 (.dead [])
 (.nb [.setB0 46 (.cmp .eql (.lit 51) (.var 0))] 46
 (.dead [])
 (.nb [.setB0 47 (.cmp .eql (.lit 51) (.var 0))] 47
 (.dead [])
 (.nb [.setB0 48 (.cmp .eql (.lit 51) (.var 0))] 48
 (.dead [])
 (.nb [.setB0 49 (.cmp .eql (.lit 51) (.var 0))] 49
 (.dead [])
 (.nb [.setB0 50 (.cmp .eql (.lit 51) (.var 0))] 50
 (.dead [])
 (.nb [.setB0 51 (.cmp .eql (.lit 51) (.var 0))] 51
 (.dead [])
 (.nb [.setB0 52 (.cmp .eql (.lit 51) (.var 0))] 52
 (.dead [])
 (.nb [.setB0 53 (.cmp .eql (.lit 51) (.var 0))] 53
 (.dead [])
 (.nb [.setB0 54 (.cmp .eql (.lit 51) (.var 0))] 54
 (.dead [])
 (.nb [.setB0 55 (.cmp .eql (.lit 51) (.var 0))] 55
 (.dead [])
 (.nb [.setB0 56 (.cmp .eql (.lit 51) (.var 0))] 56
 (.dead [])
 (.nb [.setB0 57 (.all [(.ii (.var 0) (.lit 19)), (.ii (.var 1) (.lit 1)), (.ii (.var 2) (.lit 0))])] 57
 (.leaf [] (.w (.c (.lit (.int .i64 25)))))
 (.leaf [] (.w (.c (.lit (.int .i64 0)))))))))))))))))))))))))
 (.dead [])))
 (.dead []))
 (.nb [.setB0 35 (.cmp .eql (.lit 19) (.var 0))] 35
 (.nb [.setB0 36 (.cmp .eql (.lit 5) (.var 1))] 36
 (.nb [.setB0 37 (.cmp .eql (.lit 19) (.var 0))] 37
 (.nb [.setB0 38 (.cmp .eql (.lit 5) (.var 1))] 38
 (.nb [.setB0 39 (.cmp .eql (.lit 51) (.var 0))] 39
 (.dead [])
 (.nb [.setB0 40 (.cmp .eql (.lit 51) (.var 0))] 40
 (.dead [])
 (.nb [.setB0 41 (.cmp .eql (.lit 51) (.var 0))] 41
 (.dead [])
 (.nb [.setB0 42 (.cmp .eql (.lit 51) (.var 0))] 42
 (.dead [])
 (.nb [.setB0 43 (.cmp .eql (.lit 51) (.var 0))] 43
 (.dead [])
 (.nb [.setB0 44 (.cmp .eql (.lit 51) (.var 0))] 44
 (.dead [])
 (.nb [.setB0 45 (.cmp .eql (.lit 51) (.var 0))] 45
 (.dead [])
 (.nb [.setB0 46 (.cmp .eql (.lit 51) (.var 0))] 46
 (.dead [])
 (.nb [.setB0 47 (.cmp .eql (.lit 51) (.var 0))] 47
 (.dead [])
 (.nb [.setB0 48 (.cmp .eql (.lit 51) (.var 0))] 48
 (.dead [])
 (.nb [.setB0 49 (.cmp .eql (.lit 51) (.var 0))] 49
 (.dead [])
 (.nb [.setB0 50 (.cmp .eql (.lit 51) (.var 0))] 50
 (.dead [])
 (.nb [.setB0 51 (.cmp .eql (.lit 51) (.var 0))] 51
 (.dead [])
 (.nb [.setB0 52 (.cmp .eql (.lit 51) (.var 0))] 52
 (.dead [])
 (.nb [.setB0 53 (.cmp .eql (.lit 51) (.var 0))] 53
 (.dead [])
 (.nb [.setB0 54 (.cmp .eql (.lit 51) (.var 0))] 54
 (.dead [])
 (.nb [.setB0 55 (.cmp .eql (.lit 51) (.var 0))] 55
 (.dead [])
 (.nb [.setB0 56 (.cmp .eql (.lit 51) (.var 0))] 56
 (.dead [])
 (.nb [.setB0 57 (.all [(.ii (.var 0) (.lit 19)), (.ii (.var 1) (.lit 5)), (.ii (.var 2) (.lit 0))])] 57
 (.leaf [] (.w (.c (.lit (.int .i64 26)))))
 (.nb [.setB0 58 (.all [(.ii (.var 0) (.lit 19)), (.ii (.var 1) (.lit 5)), (.ii (.var 2) (.lit 32))])] 58
 (.leaf [] (.w (.c (.lit (.int .i64 27)))))
 (.leaf [] (.w (.c (.lit (.int .i64 0)))))))))))))))))))))))))
 (.dead []))
 (.dead []))
 (.nb [.setB0 37 (.cmp .eql (.lit 19) (.var 0))] 37
 (.nb [.setB0 38 (.cmp .eql (.lit 5) (.var 1))] 38
 (.dead [])
 (.nb [.setB0 39 (.cmp .eql (.lit 51) (.var 0))] 39
 (.dead [])
 (.nb [.setB0 40 (.cmp .eql (.lit 51) (.var 0))] 40
 (.dead [])
 (.nb [.setB0 41 (.cmp .eql (.lit 51) (.var 0))] 41
 (.dead [])
 (.nb [.setB0 42 (.cmp .eql (.lit 51) (.var 0))] 42
 (.dead [])
 (.nb [.setB0 43 (.cmp .eql (.lit 51) (.var 0))] 43
 (.dead [])
 (.nb [.setB0 44 (.cmp .eql (.lit 51) (.var 0))] 44
 (.dead [])
 (.nb [.setB0 45 (.cmp .eql (.lit 51) (.var 0))] 45
 (.dead [])
 (.nb [.setB0 46 (.cmp .eql (.lit 51) (.var 0))] 46
 (.dead [])
 (.nb [.setB0 47 (.cmp .eql (.lit 51) (.var 0))] 47
 (.dead [])
 (.nb [.setB0 48 (.cmp .eql (.lit 51) (.var 0))] 48
 (.dead [])
 (.nb [.setB0 49 (.cmp .eql (.lit 51) (.var 0))] 49
 (.dead [])
 (.nb [.setB0 50 (.cmp .eql (.lit 51) (.var 0))] 50
 (.dead [])
 (.nb [.setB0 51 (.cmp .eql (.lit 51) (.var 0))] 51
 (.dead [])
 (.nb [.setB0 52 (.cmp .eql (.lit 51) (.var 0))] 52
 (.dead [])
 (.nb [.setB0 53 (.cmp .eql (.lit 51) (.var 0))] 53
 (.dead [])
 (.nb [.setB0 54 (.cmp .eql (.lit 51) (.var 0))] 54
 (.dead [])
 (.nb [.setB0 55 (.cmp .eql (.lit 51) (.var 0))] 55
 (.dead [])
 (.nb [.setB0 56 (.cmp .eql (.lit 51) (.var 0))] 56
 (.dead [])
 (.leaf [] (.w (.c (.lit (.int .i64 0))))))))))))))))))))))))
 (.dead [])))
 (.dead [])))
 (.dead [])))
 (.dead [])))
 (.dead [])))
 (.dead [])))
 (.dead [])))
theorem rvFindT0_ok : LT.Ok rvFindR rvFindT0 [.db true, .db false, .db true, .db false, .db false, .db false, .db false, .db false, .db false, .db false, .db false, .db false, .db false, .db false, .db false, .db false, .db false, .db false, .db false, .db false, .db false] [.decB 23 true, .setB0 23 (.cmp .eql (.lit 19) (.var 0)), .decB 22 false, .setB0 22 (.cmp .eql (.lit 0) (.var 1)), .decB 21 true, .setB0 21 (.cmp .eql (.lit 19) (.var 0)), .decB 20 false, .setB0 20 (.cmp .eql (.lit 35) (.var 0)), .decB 19 false, .setB0 19 (.cmp .eql (.lit 35) (.var 0)), .decB 18 false, .setB0 18 (.cmp .eql (.lit 35) (.var 0)), .decB 17 false, .setB0 17 (.cmp .eql (.lit 3) (.var 0)), .decB 16 false, .setB0 16 (.cmp .eql (.lit 3) (.var 0)), .decB 15 false, .setB0 15 (.cmp .eql (.lit 3) (.var 0)), .decB 14 false, .setB0 14 (.cmp .eql (.lit 3) (.var 0)), .decB 13 false, .setB0 13 (.cmp .eql (.lit 3) (.var 0)), .decB 12 false, .setB0 12 (.cmp .eql (.lit 99) (.var 0)), .decB 11 false, .setB0 11 (.cmp .eql (.lit 99) (.var 0)), .decB 10 false, .setB0 10 (.cmp .eql (.lit 99) (.var 0)), .decB 9 false, .setB0 9 (.cmp .eql (.lit 99) (.var 0)), .decB 8 false, .setB0 8 (.cmp .eql (.lit 99) (.var 0)), .decB 7 false, .setB0 7 (.cmp .eql (.lit 99) (.var 0)), .decB 6 false, .setB0 6 (.cmp .eql (.lit 103) (.var 0)), .decB 5 false, .setB0 5 (.cmp .eql (.lit 111) (.var 0)), .decB 4 false, .setB0 4 (.cmp .eql (.lit 23) (.var 0)), .decB 3 false, .setB0 3 (.cmp .eql (.lit 55) (.var 0))] :=
 (LT.ok_nb (LT.ok_nb (LT.ok_nb LT.ok_dead
 (LT.ok_nb (LT.ok_nb LT.ok_dead
 (LT.ok_nb (LT.ok_nb LT.ok_dead
 (LT.ok_nb (LT.ok_nb LT.ok_dead
 (LT.ok_nb (LT.ok_nb LT.ok_dead
 (LT.ok_nb (LT.ok_nb LT.ok_dead
 (LT.ok_nb (LT.ok_nb LT.ok_dead
 (LT.ok_nb LT.ok_dead
 (LT.ok_nb LT.ok_dead
 (LT.ok_nb LT.ok_dead
 (LT.ok_nb LT.ok_dead
 (LT.ok_nb LT.ok_dead
 (LT.ok_nb LT.ok_dead
 (LT.ok_nb LT.ok_dead
 (LT.ok_nb LT.ok_dead
 (LT.ok_nb LT.ok_dead
 (LT.ok_nb LT.ok_dead
 (LT.ok_nb LT.ok_dead
 (LT.ok_nb LT.ok_dead
 (LT.ok_nb LT.ok_dead
 (LT.ok_nb LT.ok_dead
 (LT.ok_nb LT.ok_dead
 (LT.ok_nb LT.ok_dead
 (LT.ok_nb LT.ok_dead
 (LT.ok_nb LT.ok_dead
 (LT.ok_nb (LT.ok_leaf (by kernel_rfl))
 (LT.ok_leaf (by kernel_rfl))))))))))))))))))))))
 LT.ok_dead))
 LT.ok_dead))
 LT.ok_dead))
 LT.ok_dead))
 LT.ok_dead))
 LT.ok_dead))
 LT.ok_dead)
 (LT.ok_nb (LT.ok_nb (LT.ok_nb (LT.ok_nb LT.ok_dead
 (LT.ok_nb (LT.ok_nb LT.ok_dead
 (LT.ok_nb (LT.ok_nb LT.ok_dead
 (LT.ok_nb (LT.ok_nb LT.ok_dead
 (LT.ok_nb (LT.ok_nb LT.ok_dead
 (LT.ok_nb (LT.ok_nb LT.ok_dead
 (LT.ok_nb LT.ok_dead
 (LT.ok_nb LT.ok_dead
 (LT.ok_nb LT.ok_dead
 (LT.ok_nb LT.ok_dead
 (LT.ok_nb LT.ok_dead
 (LT.ok_nb LT.ok_dead
 (LT.ok_nb LT.ok_dead
 (LT.ok_nb LT.ok_dead
 (LT.ok_nb LT.ok_dead
 (LT.ok_nb LT.ok_dead
 (LT.ok_nb LT.ok_dead
 (LT.ok_nb LT.ok_dead
 (LT.ok_nb LT.ok_dead
 (LT.ok_nb LT.ok_dead
 (LT.ok_nb LT.ok_dead
 (LT.ok_nb LT.ok_dead
 (LT.ok_nb LT.ok_dead
 (LT.ok_nb LT.ok_dead
 (LT.ok_nb (LT.ok_leaf (by kernel_rfl))
 (LT.ok_leaf (by kernel_rfl))))))))))))))))))))))
 LT.ok_dead))
 LT.ok_dead))
 LT.ok_dead))
 LT.ok_dead))
 LT.ok_dead))
 LT.ok_dead)
 (LT.ok_nb (LT.ok_nb (LT.ok_nb (LT.ok_nb LT.ok_dead
 (LT.ok_nb (LT.ok_nb LT.ok_dead
 (LT.ok_nb (LT.ok_nb LT.ok_dead
 (LT.ok_nb (LT.ok_nb LT.ok_dead
 (LT.ok_nb (LT.ok_nb LT.ok_dead
 (LT.ok_nb LT.ok_dead
 (LT.ok_nb LT.ok_dead
 (LT.ok_nb LT.ok_dead
 (LT.ok_nb LT.ok_dead
 (LT.ok_nb LT.ok_dead
 (LT.ok_nb LT.ok_dead
 (LT.ok_nb LT.ok_dead
 (LT.ok_nb LT.ok_dead
 (LT.ok_nb LT.ok_dead
 (LT.ok_nb LT.ok_dead
 (LT.ok_nb LT.ok_dead
 (LT.ok_nb LT.ok_dead
 (LT.ok_nb LT.ok_dead
 (LT.ok_nb LT.ok_dead
 (LT.ok_nb LT.ok_dead
 (LT.ok_nb LT.ok_dead
 (LT.ok_nb LT.ok_dead
 (LT.ok_nb LT.ok_dead
 (LT.ok_nb (LT.ok_leaf (by kernel_rfl))
 (LT.ok_leaf (by kernel_rfl))))))))))))))))))))))
 LT.ok_dead))
 LT.ok_dead))
 LT.ok_dead))
 LT.ok_dead))
 LT.ok_dead)
 (LT.ok_nb (LT.ok_nb (LT.ok_nb (LT.ok_nb LT.ok_dead
 (LT.ok_nb (LT.ok_nb LT.ok_dead
 (LT.ok_nb (LT.ok_nb LT.ok_dead
 (LT.ok_nb (LT.ok_nb LT.ok_dead
 (LT.ok_nb LT.ok_dead
 (LT.ok_nb LT.ok_dead
 (LT.ok_nb LT.ok_dead
 (LT.ok_nb LT.ok_dead
 (LT.ok_nb LT.ok_dead
 (LT.ok_nb LT.ok_dead
 (LT.ok_nb LT.ok_dead
 (LT.ok_nb LT.ok_dead
 (LT.ok_nb LT.ok_dead
 (LT.ok_nb LT.ok_dead
 (LT.ok_nb LT.ok_dead
 (LT.ok_nb LT.ok_dead
 (LT.ok_nb LT.ok_dead
 (LT.ok_nb LT.ok_dead
 (LT.ok_nb LT.ok_dead
 (LT.ok_nb LT.ok_dead
 (LT.ok_nb LT.ok_dead
 (LT.ok_nb LT.ok_dead
 (LT.ok_nb (LT.ok_leaf (by kernel_rfl))
 (LT.ok_leaf (by kernel_rfl))))))))))))))))))))))
 LT.ok_dead))
 LT.ok_dead))
 LT.ok_dead))
 LT.ok_dead)
 (LT.ok_nb (LT.ok_nb (LT.ok_nb (LT.ok_nb LT.ok_dead
 (LT.ok_nb (LT.ok_nb LT.ok_dead
 (LT.ok_nb (LT.ok_nb LT.ok_dead
 (LT.ok_nb LT.ok_dead
 (LT.ok_nb LT.ok_dead
 (LT.ok_nb LT.ok_dead
 (LT.ok_nb LT.ok_dead
 (LT.ok_nb LT.ok_dead
 (LT.ok_nb LT.ok_dead
 (LT.ok_nb LT.ok_dead
 (LT.ok_nb LT.ok_dead
 (LT.ok_nb LT.ok_dead
 (LT.ok_nb LT.ok_dead
 (LT.ok_nb LT.ok_dead
 (LT.ok_nb LT.ok_dead
 (LT.ok_nb LT.ok_dead
 (LT.ok_nb LT.ok_dead
 (LT.ok_nb LT.ok_dead
 (LT.ok_nb LT.ok_dead
 (LT.ok_nb LT.ok_dead
 (LT.ok_nb LT.ok_dead
 (LT.ok_nb (LT.ok_leaf (by kernel_rfl))
 (LT.ok_leaf (by kernel_rfl))))))))))))))))))))))
 LT.ok_dead))
 LT.ok_dead))
 LT.ok_dead)
 (LT.ok_nb (LT.ok_nb (LT.ok_nb (LT.ok_nb LT.ok_dead
 (LT.ok_nb (LT.ok_nb LT.ok_dead
 (LT.ok_nb LT.ok_dead
 (LT.ok_nb LT.ok_dead
 (LT.ok_nb LT.ok_dead
 (LT.ok_nb LT.ok_dead
 (LT.ok_nb LT.ok_dead
 (LT.ok_nb LT.ok_dead
 (LT.ok_nb LT.ok_dead
 (LT.ok_nb LT.ok_dead
 (LT.ok_nb LT.ok_dead
 (LT.ok_nb LT.ok_dead
 (LT.ok_nb LT.ok_dead
 (LT.ok_nb LT.ok_dead
 (LT.ok_nb LT.ok_dead
 (LT.ok_nb LT.ok_dead
 (LT.ok_nb LT.ok_dead
 (LT.ok_nb LT.ok_dead
 (LT.ok_nb LT.ok_dead
 (LT.ok_nb LT.ok_dead
 (LT.ok_nb (LT.ok_leaf (by kernel_rfl))
 (LT.ok_leaf (by kernel_rfl))))))))))))))))))))))
 LT.ok_dead))
 LT.ok_dead)
 (LT.ok_nb (LT.ok_nb (LT.ok_nb (LT.ok_nb (LT.ok_nb LT.ok_dead
 (LT.ok_nb LT.ok_dead
 (LT.ok_nb LT.ok_dead
 (LT.ok_nb LT.ok_dead
 (LT.ok_nb LT.ok_dead
 (LT.ok_nb LT.ok_dead
 (LT.ok_nb LT.ok_dead
 (LT.ok_nb LT.ok_dead
 (LT.ok_nb LT.ok_dead
 (LT.ok_nb LT.ok_dead
 (LT.ok_nb LT.ok_dead
 (LT.ok_nb LT.ok_dead
 (LT.ok_nb LT.ok_dead
 (LT.ok_nb LT.ok_dead
 (LT.ok_nb LT.ok_dead
 (LT.ok_nb LT.ok_dead
 (LT.ok_nb LT.ok_dead
 (LT.ok_nb LT.ok_dead
 (LT.ok_nb (LT.ok_leaf (by kernel_rfl))
 (LT.ok_nb (LT.ok_leaf (by kernel_rfl))
 (LT.ok_leaf (by kernel_rfl))))))))))))))))))))))
 LT.ok_dead)
 LT.ok_dead)
 (LT.ok_nb (LT.ok_nb LT.ok_dead
 (LT.ok_nb LT.ok_dead
 (LT.ok_nb LT.ok_dead
 (LT.ok_nb LT.ok_dead
 (LT.ok_nb LT.ok_dead
 (LT.ok_nb LT.ok_dead
 (LT.ok_nb LT.ok_dead
 (LT.ok_nb LT.ok_dead
 (LT.ok_nb LT.ok_dead
 (LT.ok_nb LT.ok_dead
 (LT.ok_nb LT.ok_dead
 (LT.ok_nb LT.ok_dead
 (LT.ok_nb LT.ok_dead
 (LT.ok_nb LT.ok_dead
 (LT.ok_nb LT.ok_dead
 (LT.ok_nb LT.ok_dead
 (LT.ok_nb LT.ok_dead
 (LT.ok_nb LT.ok_dead
 (LT.ok_nb LT.ok_dead
 (LT.ok_leaf (by kernel_rfl)))))))))))))))))))))
 LT.ok_dead))
 LT.ok_dead))
 LT.ok_dead))
 LT.ok_dead))
 LT.ok_dead))
 LT.ok_dead))
 LT.ok_dead))
noncomputable def rvFindT1 : LT :=
 (.nb [.setB0 39 (.cmp .eql (.lit 3) (.var 1))] 39
 (.nb [.setB0 40 (.cmp .eql (.lit 51) (.var 0))] 40
 (.nb [.setB0 41 (.cmp .eql (.lit 4) (.var 1))] 41
 (.dead [])
 (.nb [.setB0 42 (.cmp .eql (.lit 51) (.var 0))] 42
 (.nb [.setB0 43 (.cmp .eql (.lit 5) (.var 1))] 43
 (.dead [])
 (.nb [.setB0 44 (.cmp .eql (.lit 51) (.var 0))] 44
 (.nb [.setB0 45 (.cmp .eql (.lit 5) (.var 1))] 45
 (.dead [])
 (.nb [.setB0 46 (.cmp .eql (.lit 51) (.var 0))] 46
 (.nb [.setB0 47 (.cmp .eql (.lit 6) (.var 1))] 47
 (.dead [])
 (.nb [.setB0 48 (.cmp .eql (.lit 51) (.var 0))] 48
 (.nb [.setB0 49 (.cmp .eql (.lit 7) (.var 1))] 49
 (.dead [])
 (.nb [.setB0 50 (.cmp .eql (.lit 51) (.var 0))] 50
 (.nb [.setB0 51 (.cmp .eql (.lit 0) (.var 1))] 51
 (.dead [])
 (.nb [.setB0 52 (.cmp .eql (.lit 51) (.var 0))] 52
 (.nb [.setB0 53 (.cmp .eql (.lit 1) (.var 1))] 53
 (.dead [])
 (.nb [.setB0 54 (.cmp .eql (.lit 51) (.var 0))] 54
 (.nb [.setB0 55 (.cmp .eql (.lit 2) (.var 1))] 55
 (.dead [])
 (.nb [.setB0 56 (.cmp .eql (.lit 51) (.var 0))] 56
 (.nb [.setB0 57 (.cmp .eql (.lit 3) (.var 1))] 57
 (.nb [.setB0 58 (.cmp .eql (.lit 51) (.var 0))] 58
 (.nb [.setB0 59 (.cmp .eql (.lit 4) (.var 1))] 59
 (.dead [])
 (.nb [.setB0 60 (.cmp .eql (.lit 51) (.var 0))] 60
 (.nb [.setB0 61 (.cmp .eql (.lit 5) (.var 1))] 61
 (.dead [])
 (.nb [.setB0 62 (.cmp .eql (.lit 51) (.var 0))] 62
 (.nb [.setB0 63 (.cmp .eql (.lit 6) (.var 1))] 63
 (.dead [])
 (.nb [.setB0 64 (.cmp .eql (.lit 51) (.var 0))] 64
 (.nb [.setB0 65 (.cmp .eql (.lit 7) (.var 1))] 65
 (.dead [])
 (.nb [.setB0 66 (.all [(.ii (.var 0) (.lit 51)), (.ii (.var 1) (.lit 3)), (.ii (.var 2) (.lit 0))])] 66
 (.leaf [] (.w (.c (.lit (.int .i64 32)))))
 (.nb [.setB0 67 (.all [(.ii (.var 0) (.lit 51)), (.ii (.var 1) (.lit 3)), (.ii (.var 2) (.lit 1))])] 67
 (.leaf [] (.w (.c (.lit (.int .i64 41)))))
 (.leaf [] (.w (.c (.lit (.int .i64 0))))))))
 (.dead [])))
 (.dead [])))
 (.dead [])))
 (.dead []))
 (.dead []))
 (.dead [])))
 (.dead [])))
 (.dead [])))
 (.dead [])))
 (.dead [])))
 (.dead [])))
 (.dead [])))
 (.dead [])))
 (.dead []))
 (.nb [.setB0 40 (.cmp .eql (.lit 51) (.var 0))] 40
 (.nb [.setB0 41 (.cmp .eql (.lit 4) (.var 1))] 41
 (.nb [.setB0 42 (.cmp .eql (.lit 51) (.var 0))] 42
 (.nb [.setB0 43 (.cmp .eql (.lit 5) (.var 1))] 43
 (.dead [])
 (.nb [.setB0 44 (.cmp .eql (.lit 51) (.var 0))] 44
 (.nb [.setB0 45 (.cmp .eql (.lit 5) (.var 1))] 45
 (.dead [])
 (.nb [.setB0 46 (.cmp .eql (.lit 51) (.var 0))] 46
 (.nb [.setB0 47 (.cmp .eql (.lit 6) (.var 1))] 47
 (.dead [])
 (.nb [.setB0 48 (.cmp .eql (.lit 51) (.var 0))] 48
 (.nb [.setB0 49 (.cmp .eql (.lit 7) (.var 1))] 49
 (.dead [])
 (.nb [.setB0 50 (.cmp .eql (.lit 51) (.var 0))] 50
 (.nb [.setB0 51 (.cmp .eql (.lit 0) (.var 1))] 51
 (.dead [])
 (.nb [.setB0 52 (.cmp .eql (.lit 51) (.var 0))] 52
 (.nb [.setB0 53 (.cmp .eql (.lit 1) (.var 1))] 53
 (.dead [])
 (.nb [.setB0 54 (.cmp .eql (.lit 51) (.var 0))] 54
 (.nb [.setB0 55 (.cmp .eql (.lit 2) (.var 1))] 55
 (.dead [])
 (.nb [.setB0 56 (.cmp .eql (.lit 51) (.var 0))] 56
 (.nb [.setB0 57 (.cmp .eql (.lit 3) (.var 1))] 57
 (.dead [])
 (.nb [.setB0 58 (.cmp .eql (.lit 51) (.var 0))] 58
 (.nb [.setB0 59 (.cmp .eql (.lit 4) (.var 1))] 59
 (.nb [.setB0 60 (.cmp .eql (.lit 51) (.var 0))] 60
 (.nb [.setB0 61 (.cmp .eql (.lit 5) (.var 1))] 61
 (.dead [])
 (.nb [.setB0 62 (.cmp .eql (.lit 51) (.var 0))] 62
 (.nb [.setB0 63 (.cmp .eql (.lit 6) (.var 1))] 63
 (.dead [])
 (.nb [.setB0 64 (.cmp .eql (.lit 51) (.var 0))] 64
 (.nb [.setB0 65 (.cmp .eql (.lit 7) (.var 1))] 65
 (.dead [])
 (.nb [.setB0 66 (.all [(.ii (.var 0) (.lit 51)), (.ii (.var 1) (.lit 4)), (.ii (.var 2) (.lit 0))])] 66
 (.leaf [] (.w (.c (.lit (.int .i64 33)))))
 (.nb [.setB0 67 (.all [(.ii (.var 0) (.lit 51)), (.ii (.var 1) (.lit 4)), (.ii (.var 2) (.lit 1))])] 67
 (.leaf [] (.w (.c (.lit (.int .i64 42)))))
 (.leaf [] (.w (.c (.lit (.int .i64 0))))))))
 (.dead [])))
 (.dead [])))
 (.dead []))
 (.dead []))
 (.dead [])))
 (.dead [])))
 (.dead [])))
 (.dead [])))
 (.dead [])))
 (.dead [])))
 (.dead [])))
 (.dead [])))
 (.dead []))
 (.nb [.setB0 42 (.cmp .eql (.lit 51) (.var 0))] 42
 (.nb [.setB0 43 (.cmp .eql (.lit 5) (.var 1))] 43
 (.nb [.setB0 44 (.cmp .eql (.lit 51) (.var 0))] 44
 (.nb [.setB0 45 (.cmp .eql (.lit 5) (.var 1))] 45
 (.nb [.setB0 46 (.cmp .eql (.lit 51) (.var 0))] 46
 (.nb [.setB0 47 (.cmp .eql (.lit 6) (.var 1))] 47
 (.dead [])
 (.nb [.setB0 48 (.cmp .eql (.lit 51) (.var 0))] 48
 (.nb [.setB0 49 (.cmp .eql (.lit 7) (.var 1))] 49
 (.dead [])
 (.nb [.setB0 50 (.cmp .eql (.lit 51) (.var 0))] 50
 (.nb [.setB0 51 (.cmp .eql (.lit 0) (.var 1))] 51
 (.dead [])
 (.nb [.setB0 52 (.cmp .eql (.lit 51) (.var 0))] 52
 (.nb [.setB0 53 (.cmp .eql (.lit 1) (.var 1))] 53
 (.dead [])
 (.nb [.setB0 54 (.cmp .eql (.lit 51) (.var 0))] 54
 (.nb [.setB0 55 (.cmp .eql (.lit 2) (.var 1))] 55
 (.dead [])
 (.nb [.setB0 56 (.cmp .eql (.lit 51) (.var 0))] 56
 (.nb [.setB0 57 (.cmp .eql (.lit 3) (.var 1))] 57
 (.dead [])
 (.nb [.setB0 58 (.cmp .eql (.lit 51) (.var 0))] 58
 (.nb [.setB0 59 (.cmp .eql (.lit 4) (.var 1))] 59
 (.dead [])
 (.nb [.setB0 60 (.cmp .eql (.lit 51) (.var 0))] 60
 (.nb [.setB0 61 (.cmp .eql (.lit 5) (.var 1))] 61
 (.nb [.setB0 62 (.cmp .eql (.lit 51) (.var 0))] 62
 (.nb [.setB0 63 (.cmp .eql (.lit 6) (.var 1))] 63
 (.dead [])
 (.nb [.setB0 64 (.cmp .eql (.lit 51) (.var 0))] 64
 (.nb [.setB0 65 (.cmp .eql (.lit 7) (.var 1))] 65
 (.dead [])
 (.nb [.setB0 66 (.all [(.ii (.var 0) (.lit 51)), (.ii (.var 1) (.lit 5)), (.ii (.var 2) (.lit 0))])] 66
 (.leaf [] (.w (.c (.lit (.int .i64 34)))))
 (.nb [.setB0 67 (.all [(.ii (.var 0) (.lit 51)), (.ii (.var 1) (.lit 5)), (.ii (.var 2) (.lit 32))])] 67
 (.leaf [] (.w (.c (.lit (.int .i64 35)))))
 (.nb [.setB0 68 (.all [(.ii (.var 0) (.lit 51)), (.ii (.var 1) (.lit 5)), (.ii (.var 2) (.lit 1))])] 68
 (.leaf [] (.w (.c (.lit (.int .i64 43)))))
 (.leaf [] (.w (.c (.lit (.int .i64 0)))))))))
 (.dead [])))
 (.dead []))
 (.dead []))
 (.dead [])))
 (.dead [])))
 (.dead [])))
 (.dead [])))
 (.dead [])))
 (.dead [])))
 (.dead [])))
 (.dead []))
 (.dead []))
 (.dead []))
 (.nb [.setB0 44 (.cmp .eql (.lit 51) (.var 0))] 44
 (.nb [.setB0 45 (.cmp .eql (.lit 5) (.var 1))] 45
 (.dead [])
 (.nb [.setB0 46 (.cmp .eql (.lit 51) (.var 0))] 46
 (.nb [.setB0 47 (.cmp .eql (.lit 6) (.var 1))] 47
 (.nb [.setB0 48 (.cmp .eql (.lit 51) (.var 0))] 48
 (.nb [.setB0 49 (.cmp .eql (.lit 7) (.var 1))] 49
 (.dead [])
 (.nb [.setB0 50 (.cmp .eql (.lit 51) (.var 0))] 50
 (.nb [.setB0 51 (.cmp .eql (.lit 0) (.var 1))] 51
 (.dead [])
 (.nb [.setB0 52 (.cmp .eql (.lit 51) (.var 0))] 52
 (.nb [.setB0 53 (.cmp .eql (.lit 1) (.var 1))] 53
 (.dead [])
 (.nb [.setB0 54 (.cmp .eql (.lit 51) (.var 0))] 54
 (.nb [.setB0 55 (.cmp .eql (.lit 2) (.var 1))] 55
 (.dead [])
 (.nb [.setB0 56 (.cmp .eql (.lit 51) (.var 0))] 56
 (.nb [.setB0 57 (.cmp .eql (.lit 3) (.var 1))] 57
 (.dead [])
 (.nb [.setB0 58 (.cmp .eql (.lit 51) (.var 0))] 58
 (.nb [.setB0 59 (.cmp .eql (.lit 4) (.var 1))] 59
 (.dead [])
 (.nb [.setB0 60 (.cmp .eql (.lit 51) (.var 0))] 60
 (.nb [.setB0 61 (.cmp .eql (.lit 5) (.var 1))] 61
 (.dead [])
 (.nb [.setB0 62 (.cmp .eql (.lit 51) (.var 0))] 62
 (.nb [.setB0 63 (.cmp .eql (.lit 6) (.var 1))] 63
 (.nb [.setB0 64 (.cmp .eql (.lit 51) (.var 0))] 64
 (.nb [.setB0 65 (.cmp .eql (.lit 7) (.var 1))] 65
 (.dead [])
 (.nb [.setB0 66 (.all [(.ii (.var 0) (.lit 51)), (.ii (.var 1) (.lit 6)), (.ii (.var 2) (.lit 0))])] 66
 (.leaf [] (.w (.c (.lit (.int .i64 36)))))
 (.nb [.setB0 67 (.all [(.ii (.var 0) (.lit 51)), (.ii (.var 1) (.lit 6)), (.ii (.var 2) (.lit 1))])] 67
 (.leaf [] (.w (.c (.lit (.int .i64 44)))))
 (.leaf [] (.w (.c (.lit (.int .i64 0))))))))
 (.dead []))
 (.dead []))
 (.dead [])))
 (.dead [])))
 (.dead [])))
 (.dead [])))
 (.dead [])))
 (.dead [])))
 (.dead [])))
 (.dead []))
 (.nb [.setB0 48 (.cmp .eql (.lit 51) (.var 0))] 48
 (.nb [.setB0 49 (.cmp .eql (.lit 7) (.var 1))] 49
 (.nb [.setB0 50 (.cmp .eql (.lit 51) (.var 0))] 50
 (.nb [.setB0 51 (.cmp .eql (.lit 0) (.var 1))] 51
 (.dead [])
 (.nb [.setB0 52 (.cmp .eql (.lit 51) (.var 0))] 52
 (.nb [.setB0 53 (.cmp .eql (.lit 1) (.var 1))] 53
 (.dead [])
 (.nb [.setB0 54 (.cmp .eql (.lit 51) (.var 0))] 54
 (.nb [.setB0 55 (.cmp .eql (.lit 2) (.var 1))] 55
 (.dead [])
 (.nb [.setB0 56 (.cmp .eql (.lit 51) (.var 0))] 56
 (.nb [.setB0 57 (.cmp .eql (.lit 3) (.var 1))] 57
 (.dead [])
 (.nb [.setB0 58 (.cmp .eql (.lit 51) (.var 0))] 58
 (.nb [.setB0 59 (.cmp .eql (.lit 4) (.var 1))] 59
 (.dead [])
 (.nb [.setB0 60 (.cmp .eql (.lit 51) (.var 0))] 60
 (.nb [.setB0 61 (.cmp .eql (.lit 5) (.var 1))] 61
 (.dead [])
 (.nb [.setB0 62 (.cmp .eql (.lit 51) (.var 0))] 62
 (.nb [.setB0 63 (.cmp .eql (.lit 6) (.var 1))] 63
 (.dead [])
 (.nb [.setB0 64 (.cmp .eql (.lit 51) (.var 0))] 64
 (.nb [.setB0 65 (.cmp .eql (.lit 7) (.var 1))] 65
 (.nb [.setB0 66 (.all [(.ii (.var 0) (.lit 51)), (.ii (.var 1) (.lit 7)), (.ii (.var 2) (.lit 0))])] 66
 (.leaf [] (.w (.c (.lit (.int .i64 37)))))
 (.nb [.setB0 67 (.all [(.ii (.var 0) (.lit 51)), (.ii (.var 1) (.lit 7)), (.ii (.var 2) (.lit 1))])] 67
 (.leaf [] (.w (.c (.lit (.int .i64 45)))))
 (.leaf [] (.w (.c (.lit (.int .i64 0)))))))
 (.dead []))
 (.dead [])))
 (.dead [])))
 (.dead [])))
 (.dead [])))
 (.dead [])))
 (.dead [])))
 (.dead [])))
 (.dead []))
 (.nb [.setB0 50 (.cmp .eql (.lit 51) (.var 0))] 50
 (.nb [.setB0 51 (.cmp .eql (.lit 0) (.var 1))] 51
 (.dead [])
 (.nb [.setB0 52 (.cmp .eql (.lit 51) (.var 0))] 52
 (.nb [.setB0 53 (.cmp .eql (.lit 1) (.var 1))] 53
 (.dead [])
 (.nb [.setB0 54 (.cmp .eql (.lit 51) (.var 0))] 54
 (.nb [.setB0 55 (.cmp .eql (.lit 2) (.var 1))] 55
 (.dead [])
 (.nb [.setB0 56 (.cmp .eql (.lit 51) (.var 0))] 56
 (.nb [.setB0 57 (.cmp .eql (.lit 3) (.var 1))] 57
 (.dead [])
 (.nb [.setB0 58 (.cmp .eql (.lit 51) (.var 0))] 58
 (.nb [.setB0 59 (.cmp .eql (.lit 4) (.var 1))] 59
 (.dead [])
 (.nb [.setB0 60 (.cmp .eql (.lit 51) (.var 0))] 60
 (.nb [.setB0 61 (.cmp .eql (.lit 5) (.var 1))] 61
 (.dead [])
 (.nb [.setB0 62 (.cmp .eql (.lit 51) (.var 0))] 62
 (.nb [.setB0 63 (.cmp .eql (.lit 6) (.var 1))] 63
 (.dead [])
 (.nb [.setB0 64 (.cmp .eql (.lit 51) (.var 0))] 64
 (.nb [.setB0 65 (.cmp .eql (.lit 7) (.var 1))] 65
 (.dead [])
 (.leaf [] (.w (.c (.lit (.int .i64 0))))))
 (.dead [])))
 (.dead [])))
 (.dead [])))
 (.dead [])))
 (.dead [])))
 (.dead [])))
 (.dead [])))
 (.dead [])))
 (.dead [])))
 (.dead [])))
 (.dead [])))
 (.dead [])))
 (.dead [])))
theorem rvFindT1_ok : LT.Ok rvFindR rvFindT1 [.db true, .db false, .db true, .db false, .db true, .db false, .db true, .db false, .db true, .db false, .db false, .db false, .db false, .db false, .db false, .db false, .db false, .db false, .db false, .db false, .db false, .db false, .db false, .db false, .db false, .db false, .db false, .db false, .db false, .db false, .db false, .db false, .db false, .db false, .db false, .db false] [.decB 38 true, .setB0 38 (.cmp .eql (.lit 51) (.var 0)), .decB 37 false, .setB0 37 (.cmp .eql (.lit 2) (.var 1)), .decB 36 true, .setB0 36 (.cmp .eql (.lit 51) (.var 0)), .decB 35 false, .setB0 35 (.cmp .eql (.lit 1) (.var 1)), .decB 34 true, .setB0 34 (.cmp .eql (.lit 51) (.var 0)), .decB 33 false, .setB0 33 (.cmp .eql (.lit 0) (.var 1)), .decB 32 true, .setB0 32 (.cmp .eql (.lit 51) (.var 0)), .decB 31 false, .setB0 31 (.cmp .eql (.lit 0) (.var 1)), .decB 30 true, .setB0 30 (.cmp .eql (.lit 51) (.var 0)), .decB 29 false, .setB0 29 (.cmp .eql (.lit 19) (.var 0)), .decB 28 false, .setB0 28 (.cmp .eql (.lit 19) (.var 0)), .decB 27 false, .setB0 27 (.cmp .eql (.lit 19) (.var 0)), .decB 26 false, .setB0 26 (.cmp .eql (.lit 19) (.var 0)), .decB 25 false, .setB0 25 (.cmp .eql (.lit 19) (.var 0)), .decB 24 false, .setB0 24 (.cmp .eql (.lit 19) (.var 0)), .decB 23 false, .setB0 23 (.cmp .eql (.lit 19) (.var 0)), .decB 22 false, .setB0 22 (.cmp .eql (.lit 19) (.var 0)), .decB 21 false, .setB0 21 (.cmp .eql (.lit 19) (.var 0)), .decB 20 false, .setB0 20 (.cmp .eql (.lit 35) (.var 0)), .decB 19 false, .setB0 19 (.cmp .eql (.lit 35) (.var 0)), .decB 18 false, .setB0 18 (.cmp .eql (.lit 35) (.var 0)), .decB 17 false, .setB0 17 (.cmp .eql (.lit 3) (.var 0)), .decB 16 false, .setB0 16 (.cmp .eql (.lit 3) (.var 0)), .decB 15 false, .setB0 15 (.cmp .eql (.lit 3) (.var 0)), .decB 14 false, .setB0 14 (.cmp .eql (.lit 3) (.var 0)), .decB 13 false, .setB0 13 (.cmp .eql (.lit 3) (.var 0)), .decB 12 false, .setB0 12 (.cmp .eql (.lit 99) (.var 0)), .decB 11 false, .setB0 11 (.cmp .eql (.lit 99) (.var 0)), .decB 10 false, .setB0 10 (.cmp .eql (.lit 99) (.var 0)), .decB 9 false, .setB0 9 (.cmp .eql (.lit 99) (.var 0)), .decB 8 false, .setB0 8 (.cmp .eql (.lit 99) (.var 0)), .decB 7 false, .setB0 7 (.cmp .eql (.lit 99) (.var 0)), .decB 6 false, .setB0 6 (.cmp .eql (.lit 103) (.var 0)), .decB 5 false, .setB0 5 (.cmp .eql (.lit 111) (.var 0)), .decB 4 false, .setB0 4 (.cmp .eql (.lit 23) (.var 0)), .decB 3 false, .setB0 3 (.cmp .eql (.lit 55) (.var 0))] :=
 (LT.ok_nb (LT.ok_nb (LT.ok_nb LT.ok_dead
 (LT.ok_nb (LT.ok_nb LT.ok_dead
 (LT.ok_nb (LT.ok_nb LT.ok_dead
 (LT.ok_nb (LT.ok_nb LT.ok_dead
 (LT.ok_nb (LT.ok_nb LT.ok_dead
 (LT.ok_nb (LT.ok_nb LT.ok_dead
 (LT.ok_nb (LT.ok_nb LT.ok_dead
 (LT.ok_nb (LT.ok_nb LT.ok_dead
 (LT.ok_nb (LT.ok_nb (LT.ok_nb (LT.ok_nb LT.ok_dead
 (LT.ok_nb (LT.ok_nb LT.ok_dead
 (LT.ok_nb (LT.ok_nb LT.ok_dead
 (LT.ok_nb (LT.ok_nb LT.ok_dead
 (LT.ok_nb (LT.ok_leaf (by kernel_rfl))
 (LT.ok_nb (LT.ok_leaf (by kernel_rfl))
 (LT.ok_leaf (by kernel_rfl)))))
 LT.ok_dead))
 LT.ok_dead))
 LT.ok_dead))
 LT.ok_dead)
 LT.ok_dead)
 LT.ok_dead))
 LT.ok_dead))
 LT.ok_dead))
 LT.ok_dead))
 LT.ok_dead))
 LT.ok_dead))
 LT.ok_dead))
 LT.ok_dead))
 LT.ok_dead)
 (LT.ok_nb (LT.ok_nb (LT.ok_nb (LT.ok_nb LT.ok_dead
 (LT.ok_nb (LT.ok_nb LT.ok_dead
 (LT.ok_nb (LT.ok_nb LT.ok_dead
 (LT.ok_nb (LT.ok_nb LT.ok_dead
 (LT.ok_nb (LT.ok_nb LT.ok_dead
 (LT.ok_nb (LT.ok_nb LT.ok_dead
 (LT.ok_nb (LT.ok_nb LT.ok_dead
 (LT.ok_nb (LT.ok_nb LT.ok_dead
 (LT.ok_nb (LT.ok_nb (LT.ok_nb (LT.ok_nb LT.ok_dead
 (LT.ok_nb (LT.ok_nb LT.ok_dead
 (LT.ok_nb (LT.ok_nb LT.ok_dead
 (LT.ok_nb (LT.ok_leaf (by kernel_rfl))
 (LT.ok_nb (LT.ok_leaf (by kernel_rfl))
 (LT.ok_leaf (by kernel_rfl)))))
 LT.ok_dead))
 LT.ok_dead))
 LT.ok_dead)
 LT.ok_dead)
 LT.ok_dead))
 LT.ok_dead))
 LT.ok_dead))
 LT.ok_dead))
 LT.ok_dead))
 LT.ok_dead))
 LT.ok_dead))
 LT.ok_dead))
 LT.ok_dead)
 (LT.ok_nb (LT.ok_nb (LT.ok_nb (LT.ok_nb (LT.ok_nb (LT.ok_nb LT.ok_dead
 (LT.ok_nb (LT.ok_nb LT.ok_dead
 (LT.ok_nb (LT.ok_nb LT.ok_dead
 (LT.ok_nb (LT.ok_nb LT.ok_dead
 (LT.ok_nb (LT.ok_nb LT.ok_dead
 (LT.ok_nb (LT.ok_nb LT.ok_dead
 (LT.ok_nb (LT.ok_nb LT.ok_dead
 (LT.ok_nb (LT.ok_nb (LT.ok_nb (LT.ok_nb LT.ok_dead
 (LT.ok_nb (LT.ok_nb LT.ok_dead
 (LT.ok_nb (LT.ok_leaf (by kernel_rfl))
 (LT.ok_nb (LT.ok_leaf (by kernel_rfl))
 (LT.ok_nb (LT.ok_leaf (by kernel_rfl))
 (LT.ok_leaf (by kernel_rfl))))))
 LT.ok_dead))
 LT.ok_dead)
 LT.ok_dead)
 LT.ok_dead))
 LT.ok_dead))
 LT.ok_dead))
 LT.ok_dead))
 LT.ok_dead))
 LT.ok_dead))
 LT.ok_dead))
 LT.ok_dead)
 LT.ok_dead)
 LT.ok_dead)
 (LT.ok_nb (LT.ok_nb LT.ok_dead
 (LT.ok_nb (LT.ok_nb (LT.ok_nb (LT.ok_nb LT.ok_dead
 (LT.ok_nb (LT.ok_nb LT.ok_dead
 (LT.ok_nb (LT.ok_nb LT.ok_dead
 (LT.ok_nb (LT.ok_nb LT.ok_dead
 (LT.ok_nb (LT.ok_nb LT.ok_dead
 (LT.ok_nb (LT.ok_nb LT.ok_dead
 (LT.ok_nb (LT.ok_nb LT.ok_dead
 (LT.ok_nb (LT.ok_nb (LT.ok_nb (LT.ok_nb LT.ok_dead
 (LT.ok_nb (LT.ok_leaf (by kernel_rfl))
 (LT.ok_nb (LT.ok_leaf (by kernel_rfl))
 (LT.ok_leaf (by kernel_rfl)))))
 LT.ok_dead)
 LT.ok_dead)
 LT.ok_dead))
 LT.ok_dead))
 LT.ok_dead))
 LT.ok_dead))
 LT.ok_dead))
 LT.ok_dead))
 LT.ok_dead))
 LT.ok_dead)
 (LT.ok_nb (LT.ok_nb (LT.ok_nb (LT.ok_nb LT.ok_dead
 (LT.ok_nb (LT.ok_nb LT.ok_dead
 (LT.ok_nb (LT.ok_nb LT.ok_dead
 (LT.ok_nb (LT.ok_nb LT.ok_dead
 (LT.ok_nb (LT.ok_nb LT.ok_dead
 (LT.ok_nb (LT.ok_nb LT.ok_dead
 (LT.ok_nb (LT.ok_nb LT.ok_dead
 (LT.ok_nb (LT.ok_nb (LT.ok_nb (LT.ok_leaf (by kernel_rfl))
 (LT.ok_nb (LT.ok_leaf (by kernel_rfl))
 (LT.ok_leaf (by kernel_rfl))))
 LT.ok_dead)
 LT.ok_dead))
 LT.ok_dead))
 LT.ok_dead))
 LT.ok_dead))
 LT.ok_dead))
 LT.ok_dead))
 LT.ok_dead))
 LT.ok_dead)
 (LT.ok_nb (LT.ok_nb LT.ok_dead
 (LT.ok_nb (LT.ok_nb LT.ok_dead
 (LT.ok_nb (LT.ok_nb LT.ok_dead
 (LT.ok_nb (LT.ok_nb LT.ok_dead
 (LT.ok_nb (LT.ok_nb LT.ok_dead
 (LT.ok_nb (LT.ok_nb LT.ok_dead
 (LT.ok_nb (LT.ok_nb LT.ok_dead
 (LT.ok_nb (LT.ok_nb LT.ok_dead
 (LT.ok_leaf (by kernel_rfl)))
 LT.ok_dead))
 LT.ok_dead))
 LT.ok_dead))
 LT.ok_dead))
 LT.ok_dead))
 LT.ok_dead))
 LT.ok_dead))
 LT.ok_dead))
 LT.ok_dead))
 LT.ok_dead))
 LT.ok_dead))
 LT.ok_dead))
 LT.ok_dead))
noncomputable def rvFindT2 : LT :=
 (.nb [.setB0 18 (.cmp .eql (.lit 35) (.var 0))] 18
 (.nb [.setB0 19 (.cmp .eql (.lit 0) (.var 1))] 19
 (.nb [.setB0 20 (.cmp .eql (.lit 35) (.var 0))] 20
 (.nb [.setB0 21 (.cmp .eql (.lit 1) (.var 1))] 21
 (.dead [])
 (.nb [.setB0 22 (.cmp .eql (.lit 35) (.var 0))] 22
 (.nb [.setB0 23 (.cmp .eql (.lit 2) (.var 1))] 23
 (.dead [])
 (.nb [.setB0 24 (.cmp .eql (.lit 19) (.var 0))] 24
 (.dead [])
 (.nb [.setB0 25 (.cmp .eql (.lit 19) (.var 0))] 25
 (.dead [])
 (.nb [.setB0 26 (.cmp .eql (.lit 19) (.var 0))] 26
 (.dead [])
 (.nb [.setB0 27 (.cmp .eql (.lit 19) (.var 0))] 27
 (.dead [])
 (.nb [.setB0 28 (.cmp .eql (.lit 19) (.var 0))] 28
 (.dead [])
 (.nb [.setB0 29 (.cmp .eql (.lit 19) (.var 0))] 29
 (.dead [])
 (.nb [.setB0 30 (.cmp .eql (.lit 19) (.var 0))] 30
 (.dead [])
 (.nb [.setB0 31 (.cmp .eql (.lit 19) (.var 0))] 31
 (.dead [])
 (.nb [.setB0 32 (.cmp .eql (.lit 19) (.var 0))] 32
 (.dead [])
 (.nb [.setB0 33 (.cmp .eql (.lit 51) (.var 0))] 33
 (.dead [])
 (.nb [.setB0 34 (.cmp .eql (.lit 51) (.var 0))] 34
 (.dead [])
 (.nb [.setB0 35 (.cmp .eql (.lit 51) (.var 0))] 35
 (.dead [])
 (.nb [.setB0 36 (.cmp .eql (.lit 51) (.var 0))] 36
 (.dead [])
 (.nb [.setB0 37 (.cmp .eql (.lit 51) (.var 0))] 37
 (.dead [])
 (.nb [.setB0 38 (.cmp .eql (.lit 51) (.var 0))] 38
 (.dead [])
 (.nb [.setB0 39 (.cmp .eql (.lit 51) (.var 0))] 39
 (.dead [])
 (.nb [.setB0 40 (.cmp .eql (.lit 51) (.var 0))] 40
 (.dead [])
 (.nb [.setB0 41 (.cmp .eql (.lit 51) (.var 0))] 41
 (.dead [])
 (.nb [.setB0 42 (.cmp .eql (.lit 51) (.var 0))] 42
 (.dead [])
 (.nb [.setB0 43 (.cmp .eql (.lit 51) (.var 0))] 43
 (.dead [])
 (.nb [.setB0 44 (.cmp .eql (.lit 51) (.var 0))] 44
 (.dead [])
 (.nb [.setB0 45 (.cmp .eql (.lit 51) (.var 0))] 45
 (.dead [])
 (.nb [.setB0 46 (.cmp .eql (.lit 51) (.var 0))] 46
 (.dead [])
 (.nb [.setB0 47 (.cmp .eql (.lit 51) (.var 0))] 47
 (.dead [])
 (.nb [.setB0 48 (.cmp .eql (.lit 51) (.var 0))] 48
 (.dead [])
 (.nb [.setB0 49 (.cmp .eql (.lit 51) (.var 0))] 49
 (.dead [])
 (.nb [.setB0 50 (.cmp .eql (.lit 51) (.var 0))] 50
 (.dead [])
 (.nb [.setB0 51 (.all [(.ii (.var 0) (.lit 35)), (.ii (.var 1) (.lit 0)), (.ii (.var 2) (.lit 0))])] 51
 (.leaf [] (.w (.c (.lit (.int .i64 16)))))
 (.leaf [] (.w (.c (.lit (.int .i64 0))))))))))))))))))))))))))))))))))
 (.dead [])))
 (.dead []))
 (.nb [.setB0 20 (.cmp .eql (.lit 35) (.var 0))] 20
 (.nb [.setB0 21 (.cmp .eql (.lit 1) (.var 1))] 21
 (.nb [.setB0 22 (.cmp .eql (.lit 35) (.var 0))] 22
 (.nb [.setB0 23 (.cmp .eql (.lit 2) (.var 1))] 23
 (.dead [])
 (.nb [.setB0 24 (.cmp .eql (.lit 19) (.var 0))] 24
 (.dead [])
 (.nb [.setB0 25 (.cmp .eql (.lit 19) (.var 0))] 25
 (.dead [])
 (.nb [.setB0 26 (.cmp .eql (.lit 19) (.var 0))] 26
 (.dead [])
 (.nb [.setB0 27 (.cmp .eql (.lit 19) (.var 0))] 27
 (.dead [])
 (.nb [.setB0 28 (.cmp .eql (.lit 19) (.var 0))] 28
 (.dead [])
 (.nb [.setB0 29 (.cmp .eql (.lit 19) (.var 0))] 29
 (.dead [])
 (.nb [.setB0 30 (.cmp .eql (.lit 19) (.var 0))] 30
 (.dead [])
 (.nb [.setB0 31 (.cmp .eql (.lit 19) (.var 0))] 31
 (.dead [])
 (.nb [.setB0 32 (.cmp .eql (.lit 19) (.var 0))] 32
 (.dead [])
 (.nb [.setB0 33 (.cmp .eql (.lit 51) (.var 0))] 33
 (.dead [])
 (.nb [.setB0 34 (.cmp .eql (.lit 51) (.var 0))] 34
 (.dead [])
 (.nb [.setB0 35 (.cmp .eql (.lit 51) (.var 0))] 35
 (.dead [])
 (.nb [.setB0 36 (.cmp .eql (.lit 51) (.var 0))] 36
 (.dead [])
 (.nb [.setB0 37 (.cmp .eql (.lit 51) (.var 0))] 37
 (.dead [])
 (.nb [.setB0 38 (.cmp .eql (.lit 51) (.var 0))] 38
 (.dead [])
 (.nb [.setB0 39 (.cmp .eql (.lit 51) (.var 0))] 39
 (.dead [])
 (.nb [.setB0 40 (.cmp .eql (.lit 51) (.var 0))] 40
 (.dead [])
 (.nb [.setB0 41 (.cmp .eql (.lit 51) (.var 0))] 41
 (.dead [])
 (.nb [.setB0 42 (.cmp .eql (.lit 51) (.var 0))] 42
 (.dead [])
 (.nb [.setB0 43 (.cmp .eql (.lit 51) (.var 0))] 43
 (.dead [])
 (.nb [.setB0 44 (.cmp .eql (.lit 51) (.var 0))] 44
 (.dead [])
 (.nb [.setB0 45 (.cmp .eql (.lit 51) (.var 0))] 45
 (.dead [])
 (.nb [.setB0 46 (.cmp .eql (.lit 51) (.var 0))] 46
 (.dead [])
 (.nb [.setB0 47 (.cmp .eql (.lit 51) (.var 0))] 47
 (.dead [])
 (.nb [.setB0 48 (.cmp .eql (.lit 51) (.var 0))] 48
 (.dead [])
 (.nb [.setB0 49 (.cmp .eql (.lit 51) (.var 0))] 49
 (.dead [])
 (.nb [.setB0 50 (.cmp .eql (.lit 51) (.var 0))] 50
 (.dead [])
 (.nb [.setB0 51 (.all [(.ii (.var 0) (.lit 35)), (.ii (.var 1) (.lit 1)), (.ii (.var 2) (.lit 0))])] 51
 (.leaf [] (.w (.c (.lit (.int .i64 17)))))
 (.leaf [] (.w (.c (.lit (.int .i64 0))))))))))))))))))))))))))))))))))
 (.dead []))
 (.nb [.setB0 22 (.cmp .eql (.lit 35) (.var 0))] 22
 (.nb [.setB0 23 (.cmp .eql (.lit 2) (.var 1))] 23
 (.nb [.setB0 24 (.cmp .eql (.lit 19) (.var 0))] 24
 (.dead [])
 (.nb [.setB0 25 (.cmp .eql (.lit 19) (.var 0))] 25
 (.dead [])
 (.nb [.setB0 26 (.cmp .eql (.lit 19) (.var 0))] 26
 (.dead [])
 (.nb [.setB0 27 (.cmp .eql (.lit 19) (.var 0))] 27
 (.dead [])
 (.nb [.setB0 28 (.cmp .eql (.lit 19) (.var 0))] 28
 (.dead [])
 (.nb [.setB0 29 (.cmp .eql (.lit 19) (.var 0))] 29
 (.dead [])
 (.nb [.setB0 30 (.cmp .eql (.lit 19) (.var 0))] 30
 (.dead [])
 (.nb [.setB0 31 (.cmp .eql (.lit 19) (.var 0))] 31
 (.dead [])
 (.nb [.setB0 32 (.cmp .eql (.lit 19) (.var 0))] 32
 (.dead [])
 (.nb [.setB0 33 (.cmp .eql (.lit 51) (.var 0))] 33
 (.dead [])
 (.nb [.setB0 34 (.cmp .eql (.lit 51) (.var 0))] 34
 (.dead [])
 (.nb [.setB0 35 (.cmp .eql (.lit 51) (.var 0))] 35
 (.dead [])
 (.nb [.setB0 36 (.cmp .eql (.lit 51) (.var 0))] 36
 (.dead [])
 (.nb [.setB0 37 (.cmp .eql (.lit 51) (.var 0))] 37
 (.dead [])
 (.nb [.setB0 38 (.cmp .eql (.lit 51) (.var 0))] 38
 (.dead [])
 (.nb [.setB0 39 (.cmp .eql (.lit 51) (.var 0))] 39
 (.dead [])
 (.nb [.setB0 40 (.cmp .eql (.lit 51) (.var 0))] 40
 (.dead [])
 (.nb [.setB0 41 (.cmp .eql (.lit 51) (.var 0))] 41
 (.dead [])
 (.nb [.setB0 42 (.cmp .eql (.lit 51) (.var 0))] 42
 (.dead [])
 (.nb [.setB0 43 (.cmp .eql (.lit 51) (.var 0))] 43
 (.dead [])
 (.nb [.setB0 44 (.cmp .eql (.lit 51) (.var 0))] 44
 (.dead [])
 (.nb [.setB0 45 (.cmp .eql (.lit 51) (.var 0))] 45
 (.dead [])
 (.nb [.setB0 46 (.cmp .eql (.lit 51) (.var 0))] 46
 (.dead [])
 (.nb [.setB0 47 (.cmp .eql (.lit 51) (.var 0))] 47
 (.dead [])
 (.nb [.setB0 48 (.cmp .eql (.lit 51) (.var 0))] 48
 (.dead [])
 (.nb [.setB0 49 (.cmp .eql (.lit 51) (.var 0))] 49
 (.dead [])
 (.nb [.setB0 50 (.cmp .eql (.lit 51) (.var 0))] 50
 (.dead [])
 (.nb [.setB0 51 (.all [(.ii (.var 0) (.lit 35)), (.ii (.var 1) (.lit 2)), (.ii (.var 2) (.lit 0))])] 51
 (.leaf [] (.w (.c (.lit (.int .i64 18)))))
 (.leaf [] (.w (.c (.lit (.int .i64 0)))))))))))))))))))))))))))))))))
 (.nb [.setB0 24 (.cmp .eql (.lit 19) (.var 0))] 24
 (.dead [])
 (.nb [.setB0 25 (.cmp .eql (.lit 19) (.var 0))] 25
 (.dead [])
 (.nb [.setB0 26 (.cmp .eql (.lit 19) (.var 0))] 26
 (.dead [])
 (.nb [.setB0 27 (.cmp .eql (.lit 19) (.var 0))] 27
 (.dead [])
 (.nb [.setB0 28 (.cmp .eql (.lit 19) (.var 0))] 28
 (.dead [])
 (.nb [.setB0 29 (.cmp .eql (.lit 19) (.var 0))] 29
 (.dead [])
 (.nb [.setB0 30 (.cmp .eql (.lit 19) (.var 0))] 30
 (.dead [])
 (.nb [.setB0 31 (.cmp .eql (.lit 19) (.var 0))] 31
 (.dead [])
 (.nb [.setB0 32 (.cmp .eql (.lit 19) (.var 0))] 32
 (.dead [])
 (.nb [.setB0 33 (.cmp .eql (.lit 51) (.var 0))] 33
 (.dead [])
 (.nb [.setB0 34 (.cmp .eql (.lit 51) (.var 0))] 34
 (.dead [])
 (.nb [.setB0 35 (.cmp .eql (.lit 51) (.var 0))] 35
 (.dead [])
 (.nb [.setB0 36 (.cmp .eql (.lit 51) (.var 0))] 36
 (.dead [])
 (.nb [.setB0 37 (.cmp .eql (.lit 51) (.var 0))] 37
 (.dead [])
 (.nb [.setB0 38 (.cmp .eql (.lit 51) (.var 0))] 38
 (.dead [])
 (.nb [.setB0 39 (.cmp .eql (.lit 51) (.var 0))] 39
 (.dead [])
 (.nb [.setB0 40 (.cmp .eql (.lit 51) (.var 0))] 40
 (.dead [])
 (.nb [.setB0 41 (.cmp .eql (.lit 51) (.var 0))] 41
 (.dead [])
 (.nb [.setB0 42 (.cmp .eql (.lit 51) (.var 0))] 42
 (.dead [])
 (.nb [.setB0 43 (.cmp .eql (.lit 51) (.var 0))] 43
 (.dead [])
 (.nb [.setB0 44 (.cmp .eql (.lit 51) (.var 0))] 44
 (.dead [])
 (.nb [.setB0 45 (.cmp .eql (.lit 51) (.var 0))] 45
 (.dead [])
 (.nb [.setB0 46 (.cmp .eql (.lit 51) (.var 0))] 46
 (.dead [])
 (.nb [.setB0 47 (.cmp .eql (.lit 51) (.var 0))] 47
 (.dead [])
 (.nb [.setB0 48 (.cmp .eql (.lit 51) (.var 0))] 48
 (.dead [])
 (.nb [.setB0 49 (.cmp .eql (.lit 51) (.var 0))] 49
 (.dead [])
 (.nb [.setB0 50 (.cmp .eql (.lit 51) (.var 0))] 50
 (.dead [])
 (.leaf [] (.w (.c (.lit (.int .i64 0)))))))))))))))))))))))))))))))))
 (.dead [])))
 (.dead [])))
 (.nb [.setB0 19 (.cmp .eql (.lit 35) (.var 0))] 19
 (.dead [])
 (.nb [.setB0 20 (.cmp .eql (.lit 35) (.var 0))] 20
 (.dead [])
 (.nb [.setB0 21 (.cmp .eql (.lit 19) (.var 0))] 21
 (.nb [.setB0 22 (.cmp .eql (.lit 0) (.var 1))] 22
 (.nb [.setB0 23 (.cmp .eql (.lit 19) (.var 0))] 23
 (.nb [.setB0 24 (.cmp .eql (.lit 2) (.var 1))] 24
 (.dead [])
 (.nb [.setB0 25 (.cmp .eql (.lit 19) (.var 0))] 25
 (.nb [.setB0 26 (.cmp .eql (.lit 3) (.var 1))] 26
 (.dead [])
 (.nb [.setB0 27 (.cmp .eql (.lit 19) (.var 0))] 27
 (.nb [.setB0 28 (.cmp .eql (.lit 4) (.var 1))] 28
 (.dead [])
 (.nb [.setB0 29 (.cmp .eql (.lit 19) (.var 0))] 29
 (.nb [.setB0 30 (.cmp .eql (.lit 6) (.var 1))] 30
 (.dead [])
 (.nb [.setB0 31 (.cmp .eql (.lit 19) (.var 0))] 31
 (.nb [.setB0 32 (.cmp .eql (.lit 7) (.var 1))] 32
 (.dead [])
 (.nb [.setB0 33 (.cmp .eql (.lit 19) (.var 0))] 33
 (.nb [.setB0 34 (.cmp .eql (.lit 1) (.var 1))] 34
 (.dead [])
 (.nb [.setB0 35 (.cmp .eql (.lit 19) (.var 0))] 35
 (.nb [.setB0 36 (.cmp .eql (.lit 5) (.var 1))] 36
 (.dead [])
 (.nb [.setB0 37 (.cmp .eql (.lit 19) (.var 0))] 37
 (.nb [.setB0 38 (.cmp .eql (.lit 5) (.var 1))] 38
 (.dead [])
 (.nb [.setB0 39 (.cmp .eql (.lit 51) (.var 0))] 39
 (.dead [])
 (.nb [.setB0 40 (.cmp .eql (.lit 51) (.var 0))] 40
 (.dead [])
 (.nb [.setB0 41 (.cmp .eql (.lit 51) (.var 0))] 41
 (.dead [])
 (.nb [.setB0 42 (.cmp .eql (.lit 51) (.var 0))] 42
 (.dead [])
 (.nb [.setB0 43 (.cmp .eql (.lit 51) (.var 0))] 43
 (.dead [])
 (.nb [.setB0 44 (.cmp .eql (.lit 51) (.var 0))] 44
 (.dead [])
 (.nb [.setB0 45 (.cmp .eql (.lit 51) (.var 0))] 45
 (.dead [])
 (.nb [.setB0 46 (.cmp .eql (.lit 51) (.var 0))] 46
 (.dead [])
 (.nb [.setB0 47 (.cmp .eql (.lit 51) (.var 0))] 47
 (.dead [])
 (.nb [.setB0 48 (.cmp .eql (.lit 51) (.var 0))] 48
 (.dead [])
 (.nb [.setB0 49 (.cmp .eql (.lit 51) (.var 0))] 49
 (.dead [])
 (.nb [.setB0 50 (.cmp .eql (.lit 51) (.var 0))] 50
 (.dead [])
 (.nb [.setB0 51 (.cmp .eql (.lit 51) (.var 0))] 51
 (.dead [])
 (.nb [.setB0 52 (.cmp .eql (.lit 51) (.var 0))] 52
 (.dead [])
 (.nb [.setB0 53 (.cmp .eql (.lit 51) (.var 0))] 53
 (.dead [])
 (.nb [.setB0 54 (.cmp .eql (.lit 51) (.var 0))] 54
 (.dead [])
 (.nb [.setB0 55 (.cmp .eql (.lit 51) (.var 0))] 55
 (.dead [])
 (.nb [.setB0 56 (.cmp .eql (.lit 51) (.var 0))] 56
 (.dead [])
 (.nb [.setB0 57 (.all [(.ii (.var 0) (.lit 19)), (.ii (.var 1) (.lit 0)), (.ii (.var 2) (.lit 0))])] 57
 (.leaf [] (.w (.c (.lit (.int .i64 19)))))
 (.leaf [] (.w (.c (.lit (.int .i64 0)))))))))))))))))))))))))
 (.dead [])))
 (.dead [])))
 (.dead [])))
 (.dead [])))
 (.dead [])))
 (.dead [])))
 (.dead [])))
 (.dead []))
 (.nb [.setB0 23 (.cmp .eql (.lit 19) (.var 0))] 23
 rvFindT0
 (.dead [])))
 (.nb [.setB0 22 (.cmp .eql (.lit 19) (.var 0))] 22
 (.dead [])
 (.nb [.setB0 23 (.cmp .eql (.lit 19) (.var 0))] 23
 (.dead [])
 (.nb [.setB0 24 (.cmp .eql (.lit 19) (.var 0))] 24
 (.dead [])
 (.nb [.setB0 25 (.cmp .eql (.lit 19) (.var 0))] 25
 (.dead [])
 (.nb [.setB0 26 (.cmp .eql (.lit 19) (.var 0))] 26
 (.dead [])
 (.nb [.setB0 27 (.cmp .eql (.lit 19) (.var 0))] 27
 (.dead [])
 (.nb [.setB0 28 (.cmp .eql (.lit 19) (.var 0))] 28
 (.dead [])
 (.nb [.setB0 29 (.cmp .eql (.lit 19) (.var 0))] 29
 (.dead [])
 (.nb [.setB0 30 (.cmp .eql (.lit 51) (.var 0))] 30
 (.nb [.setB0 31 (.cmp .eql (.lit 0) (.var 1))] 31
 (.nb [.setB0 32 (.cmp .eql (.lit 51) (.var 0))] 32
 (.nb [.setB0 33 (.cmp .eql (.lit 0) (.var 1))] 33
 (.nb [.setB0 34 (.cmp .eql (.lit 51) (.var 0))] 34
 (.nb [.setB0 35 (.cmp .eql (.lit 1) (.var 1))] 35
 (.dead [])
 (.nb [.setB0 36 (.cmp .eql (.lit 51) (.var 0))] 36
 (.nb [.setB0 37 (.cmp .eql (.lit 2) (.var 1))] 37
 (.dead [])
 (.nb [.setB0 38 (.cmp .eql (.lit 51) (.var 0))] 38
 (.nb [.setB0 39 (.cmp .eql (.lit 3) (.var 1))] 39
 (.dead [])
 (.nb [.setB0 40 (.cmp .eql (.lit 51) (.var 0))] 40
 (.nb [.setB0 41 (.cmp .eql (.lit 4) (.var 1))] 41
 (.dead [])
 (.nb [.setB0 42 (.cmp .eql (.lit 51) (.var 0))] 42
 (.nb [.setB0 43 (.cmp .eql (.lit 5) (.var 1))] 43
 (.dead [])
 (.nb [.setB0 44 (.cmp .eql (.lit 51) (.var 0))] 44
 (.nb [.setB0 45 (.cmp .eql (.lit 5) (.var 1))] 45
 (.dead [])
 (.nb [.setB0 46 (.cmp .eql (.lit 51) (.var 0))] 46
 (.nb [.setB0 47 (.cmp .eql (.lit 6) (.var 1))] 47
 (.dead [])
 (.nb [.setB0 48 (.cmp .eql (.lit 51) (.var 0))] 48
 (.nb [.setB0 49 (.cmp .eql (.lit 7) (.var 1))] 49
 (.dead [])
 (.nb [.setB0 50 (.cmp .eql (.lit 51) (.var 0))] 50
 (.nb [.setB0 51 (.cmp .eql (.lit 0) (.var 1))] 51
 (.nb [.setB0 52 (.cmp .eql (.lit 51) (.var 0))] 52
 (.nb [.setB0 53 (.cmp .eql (.lit 1) (.var 1))] 53
 (.dead [])
 (.nb [.setB0 54 (.cmp .eql (.lit 51) (.var 0))] 54
 (.nb [.setB0 55 (.cmp .eql (.lit 2) (.var 1))] 55
 (.dead [])
 (.nb [.setB0 56 (.cmp .eql (.lit 51) (.var 0))] 56
 (.nb [.setB0 57 (.cmp .eql (.lit 3) (.var 1))] 57
 (.dead [])
 (.nb [.setB0 58 (.cmp .eql (.lit 51) (.var 0))] 58
 (.nb [.setB0 59 (.cmp .eql (.lit 4) (.var 1))] 59
 (.dead [])
 (.nb [.setB0 60 (.cmp .eql (.lit 51) (.var 0))] 60
 (.nb [.setB0 61 (.cmp .eql (.lit 5) (.var 1))] 61
 (.dead [])
 (.nb [.setB0 62 (.cmp .eql (.lit 51) (.var 0))] 62
 (.nb [.setB0 63 (.cmp .eql (.lit 6) (.var 1))] 63
 (.dead [])
 (.nb [.setB0 64 (.cmp .eql (.lit 51) (.var 0))] 64
 (.nb [.setB0 65 (.cmp .eql (.lit 7) (.var 1))] 65
 (.dead [])
 (.nb [.setB0 66 (.all [(.ii (.var 0) (.lit 51)), (.ii (.var 1) (.lit 0)), (.ii (.var 2) (.lit 0))])] 66
 (.leaf [] (.w (.c (.lit (.int .i64 28)))))
 (.nb [.setB0 67 (.all [(.ii (.var 0) (.lit 51)), (.ii (.var 1) (.lit 0)), (.ii (.var 2) (.lit 32))])] 67
 (.leaf [] (.w (.c (.lit (.int .i64 29)))))
 (.nb [.setB0 68 (.all [(.ii (.var 0) (.lit 51)), (.ii (.var 1) (.lit 0)), (.ii (.var 2) (.lit 1))])] 68
 (.leaf [] (.w (.c (.lit (.int .i64 38)))))
 (.leaf [] (.w (.c (.lit (.int .i64 0)))))))))
 (.dead [])))
 (.dead [])))
 (.dead [])))
 (.dead [])))
 (.dead [])))
 (.dead [])))
 (.dead []))
 (.dead []))
 (.dead [])))
 (.dead [])))
 (.dead [])))
 (.dead [])))
 (.dead [])))
 (.dead [])))
 (.dead [])))
 (.dead [])))
 (.dead []))
 (.dead []))
 (.dead []))
 (.nb [.setB0 32 (.cmp .eql (.lit 51) (.var 0))] 32
 (.nb [.setB0 33 (.cmp .eql (.lit 0) (.var 1))] 33
 (.dead [])
 (.nb [.setB0 34 (.cmp .eql (.lit 51) (.var 0))] 34
 (.nb [.setB0 35 (.cmp .eql (.lit 1) (.var 1))] 35
 (.nb [.setB0 36 (.cmp .eql (.lit 51) (.var 0))] 36
 (.nb [.setB0 37 (.cmp .eql (.lit 2) (.var 1))] 37
 (.dead [])
 (.nb [.setB0 38 (.cmp .eql (.lit 51) (.var 0))] 38
 (.nb [.setB0 39 (.cmp .eql (.lit 3) (.var 1))] 39
 (.dead [])
 (.nb [.setB0 40 (.cmp .eql (.lit 51) (.var 0))] 40
 (.nb [.setB0 41 (.cmp .eql (.lit 4) (.var 1))] 41
 (.dead [])
 (.nb [.setB0 42 (.cmp .eql (.lit 51) (.var 0))] 42
 (.nb [.setB0 43 (.cmp .eql (.lit 5) (.var 1))] 43
 (.dead [])
 (.nb [.setB0 44 (.cmp .eql (.lit 51) (.var 0))] 44
 (.nb [.setB0 45 (.cmp .eql (.lit 5) (.var 1))] 45
 (.dead [])
 (.nb [.setB0 46 (.cmp .eql (.lit 51) (.var 0))] 46
 (.nb [.setB0 47 (.cmp .eql (.lit 6) (.var 1))] 47
 (.dead [])
 (.nb [.setB0 48 (.cmp .eql (.lit 51) (.var 0))] 48
 (.nb [.setB0 49 (.cmp .eql (.lit 7) (.var 1))] 49
 (.dead [])
 (.nb [.setB0 50 (.cmp .eql (.lit 51) (.var 0))] 50
 (.nb [.setB0 51 (.cmp .eql (.lit 0) (.var 1))] 51
 (.dead [])
 (.nb [.setB0 52 (.cmp .eql (.lit 51) (.var 0))] 52
 (.nb [.setB0 53 (.cmp .eql (.lit 1) (.var 1))] 53
 (.nb [.setB0 54 (.cmp .eql (.lit 51) (.var 0))] 54
 (.nb [.setB0 55 (.cmp .eql (.lit 2) (.var 1))] 55
 (.dead [])
 (.nb [.setB0 56 (.cmp .eql (.lit 51) (.var 0))] 56
 (.nb [.setB0 57 (.cmp .eql (.lit 3) (.var 1))] 57
 (.dead [])
 (.nb [.setB0 58 (.cmp .eql (.lit 51) (.var 0))] 58
 (.nb [.setB0 59 (.cmp .eql (.lit 4) (.var 1))] 59
 (.dead [])
 (.nb [.setB0 60 (.cmp .eql (.lit 51) (.var 0))] 60
 (.nb [.setB0 61 (.cmp .eql (.lit 5) (.var 1))] 61
 (.dead [])
 (.nb [.setB0 62 (.cmp .eql (.lit 51) (.var 0))] 62
 (.nb [.setB0 63 (.cmp .eql (.lit 6) (.var 1))] 63
 (.dead [])
 (.nb [.setB0 64 (.cmp .eql (.lit 51) (.var 0))] 64
 (.nb [.setB0 65 (.cmp .eql (.lit 7) (.var 1))] 65
 (.dead [])
 (.nb [.setB0 66 (.all [(.ii (.var 0) (.lit 51)), (.ii (.var 1) (.lit 1)), (.ii (.var 2) (.lit 0))])] 66
 (.leaf [] (.w (.c (.lit (.int .i64 30)))))
 (.nb [.setB0 67 (.all [(.ii (.var 0) (.lit 51)), (.ii (.var 1) (.lit 1)), (.ii (.var 2) (.lit 1))])] 67
 (.leaf [] (.w (.c (.lit (.int .i64 39)))))
 (.leaf [] (.w (.c (.lit (.int .i64 0))))))))
 (.dead [])))
 (.dead [])))
 (.dead [])))
 (.dead [])))
 (.dead [])))
 (.dead []))
 (.dead []))
 (.dead [])))
 (.dead [])))
 (.dead [])))
 (.dead [])))
 (.dead [])))
 (.dead [])))
 (.dead [])))
 (.dead [])))
 (.dead []))
 (.nb [.setB0 36 (.cmp .eql (.lit 51) (.var 0))] 36
 (.nb [.setB0 37 (.cmp .eql (.lit 2) (.var 1))] 37
 (.nb [.setB0 38 (.cmp .eql (.lit 51) (.var 0))] 38
 (.nb [.setB0 39 (.cmp .eql (.lit 3) (.var 1))] 39
 (.dead [])
 (.nb [.setB0 40 (.cmp .eql (.lit 51) (.var 0))] 40
 (.nb [.setB0 41 (.cmp .eql (.lit 4) (.var 1))] 41
 (.dead [])
 (.nb [.setB0 42 (.cmp .eql (.lit 51) (.var 0))] 42
 (.nb [.setB0 43 (.cmp .eql (.lit 5) (.var 1))] 43
 (.dead [])
 (.nb [.setB0 44 (.cmp .eql (.lit 51) (.var 0))] 44
 (.nb [.setB0 45 (.cmp .eql (.lit 5) (.var 1))] 45
 (.dead [])
 (.nb [.setB0 46 (.cmp .eql (.lit 51) (.var 0))] 46
 (.nb [.setB0 47 (.cmp .eql (.lit 6) (.var 1))] 47
 (.dead [])
 (.nb [.setB0 48 (.cmp .eql (.lit 51) (.var 0))] 48
 (.nb [.setB0 49 (.cmp .eql (.lit 7) (.var 1))] 49
 (.dead [])
 (.nb [.setB0 50 (.cmp .eql (.lit 51) (.var 0))] 50
 (.nb [.setB0 51 (.cmp .eql (.lit 0) (.var 1))] 51
 (.dead [])
 (.nb [.setB0 52 (.cmp .eql (.lit 51) (.var 0))] 52
 (.nb [.setB0 53 (.cmp .eql (.lit 1) (.var 1))] 53
 (.dead [])
 (.nb [.setB0 54 (.cmp .eql (.lit 51) (.var 0))] 54
 (.nb [.setB0 55 (.cmp .eql (.lit 2) (.var 1))] 55
 (.nb [.setB0 56 (.cmp .eql (.lit 51) (.var 0))] 56
 (.nb [.setB0 57 (.cmp .eql (.lit 3) (.var 1))] 57
 (.dead [])
 (.nb [.setB0 58 (.cmp .eql (.lit 51) (.var 0))] 58
 (.nb [.setB0 59 (.cmp .eql (.lit 4) (.var 1))] 59
 (.dead [])
 (.nb [.setB0 60 (.cmp .eql (.lit 51) (.var 0))] 60
 (.nb [.setB0 61 (.cmp .eql (.lit 5) (.var 1))] 61
 (.dead [])
 (.nb [.setB0 62 (.cmp .eql (.lit 51) (.var 0))] 62
 (.nb [.setB0 63 (.cmp .eql (.lit 6) (.var 1))] 63
 (.dead [])
 (.nb [.setB0 64 (.cmp .eql (.lit 51) (.var 0))] 64
 (.nb [.setB0 65 (.cmp .eql (.lit 7) (.var 1))] 65
 (.dead [])
 (.nb [.setB0 66 (.all [(.ii (.var 0) (.lit 51)), (.ii (.var 1) (.lit 2)), (.ii (.var 2) (.lit 0))])] 66
 (.leaf [] (.w (.c (.lit (.int .i64 31)))))
 (.nb [.setB0 67 (.all [(.ii (.var 0) (.lit 51)), (.ii (.var 1) (.lit 2)), (.ii (.var 2) (.lit 1))])] 67
 (.leaf [] (.w (.c (.lit (.int .i64 40)))))
 (.leaf [] (.w (.c (.lit (.int .i64 0))))))))
 (.dead [])))
 (.dead [])))
 (.dead [])))
 (.dead [])))
 (.dead []))
 (.dead []))
 (.dead [])))
 (.dead [])))
 (.dead [])))
 (.dead [])))
 (.dead [])))
 (.dead [])))
 (.dead [])))
 (.dead [])))
 (.dead []))
 (.nb [.setB0 38 (.cmp .eql (.lit 51) (.var 0))] 38
 rvFindT1
 (.dead [])))
 (.dead [])))
 (.dead [])))
 (.dead [])))
 (.nb [.setB0 31 (.cmp .eql (.lit 51) (.var 0))] 31
 (.dead [])
 (.nb [.setB0 32 (.cmp .eql (.lit 51) (.var 0))] 32
 (.dead [])
 (.nb [.setB0 33 (.cmp .eql (.lit 51) (.var 0))] 33
 (.dead [])
 (.nb [.setB0 34 (.cmp .eql (.lit 51) (.var 0))] 34
 (.dead [])
 (.nb [.setB0 35 (.cmp .eql (.lit 51) (.var 0))] 35
 (.dead [])
 (.nb [.setB0 36 (.cmp .eql (.lit 51) (.var 0))] 36
 (.dead [])
 (.nb [.setB0 37 (.cmp .eql (.lit 51) (.var 0))] 37
 (.dead [])
 (.nb [.setB0 38 (.cmp .eql (.lit 51) (.var 0))] 38
 (.dead [])
 (.nb [.setB0 39 (.cmp .eql (.lit 51) (.var 0))] 39
 (.dead [])
 (.nb [.setB0 40 (.cmp .eql (.lit 51) (.var 0))] 40
 (.dead [])
 (.nb [.setB0 41 (.cmp .eql (.lit 51) (.var 0))] 41
 (.dead [])
 (.nb [.setB0 42 (.cmp .eql (.lit 51) (.var 0))] 42
 (.dead [])
 (.nb [.setB0 43 (.cmp .eql (.lit 51) (.var 0))] 43
 (.dead [])
 (.nb [.setB0 44 (.cmp .eql (.lit 51) (.var 0))] 44
 (.dead [])
 (.nb [.setB0 45 (.cmp .eql (.lit 51) (.var 0))] 45
 (.dead [])
 (.nb [.setB0 46 (.cmp .eql (.lit 51) (.var 0))] 46
 (.dead [])
 (.nb [.setB0 47 (.cmp .eql (.lit 51) (.var 0))] 47
 (.dead [])
 (.leaf [] (.w (.c (.lit (.int .i64 0)))))))))))))))))))))))))))))))))))
theorem rvFindT2_ok : LT.Ok rvFindR rvFindT2 [.db false, .db false, .db false, .db false, .db false, .db false, .db false, .db false, .db false, .db false, .db false, .db false, .db false, .db false, .db false] [.decB 17 false, .setB0 17 (.cmp .eql (.lit 3) (.var 0)), .decB 16 false, .setB0 16 (.cmp .eql (.lit 3) (.var 0)), .decB 15 false, .setB0 15 (.cmp .eql (.lit 3) (.var 0)), .decB 14 false, .setB0 14 (.cmp .eql (.lit 3) (.var 0)), .decB 13 false, .setB0 13 (.cmp .eql (.lit 3) (.var 0)), .decB 12 false, .setB0 12 (.cmp .eql (.lit 99) (.var 0)), .decB 11 false, .setB0 11 (.cmp .eql (.lit 99) (.var 0)), .decB 10 false, .setB0 10 (.cmp .eql (.lit 99) (.var 0)), .decB 9 false, .setB0 9 (.cmp .eql (.lit 99) (.var 0)), .decB 8 false, .setB0 8 (.cmp .eql (.lit 99) (.var 0)), .decB 7 false, .setB0 7 (.cmp .eql (.lit 99) (.var 0)), .decB 6 false, .setB0 6 (.cmp .eql (.lit 103) (.var 0)), .decB 5 false, .setB0 5 (.cmp .eql (.lit 111) (.var 0)), .decB 4 false, .setB0 4 (.cmp .eql (.lit 23) (.var 0)), .decB 3 false, .setB0 3 (.cmp .eql (.lit 55) (.var 0))] :=
 (LT.ok_nb (LT.ok_nb (LT.ok_nb (LT.ok_nb LT.ok_dead
 (LT.ok_nb (LT.ok_nb LT.ok_dead
 (LT.ok_nb LT.ok_dead
 (LT.ok_nb LT.ok_dead
 (LT.ok_nb LT.ok_dead
 (LT.ok_nb LT.ok_dead
 (LT.ok_nb LT.ok_dead
 (LT.ok_nb LT.ok_dead
 (LT.ok_nb LT.ok_dead
 (LT.ok_nb LT.ok_dead
 (LT.ok_nb LT.ok_dead
 (LT.ok_nb LT.ok_dead
 (LT.ok_nb LT.ok_dead
 (LT.ok_nb LT.ok_dead
 (LT.ok_nb LT.ok_dead
 (LT.ok_nb LT.ok_dead
 (LT.ok_nb LT.ok_dead
 (LT.ok_nb LT.ok_dead
 (LT.ok_nb LT.ok_dead
 (LT.ok_nb LT.ok_dead
 (LT.ok_nb LT.ok_dead
 (LT.ok_nb LT.ok_dead
 (LT.ok_nb LT.ok_dead
 (LT.ok_nb LT.ok_dead
 (LT.ok_nb LT.ok_dead
 (LT.ok_nb LT.ok_dead
 (LT.ok_nb LT.ok_dead
 (LT.ok_nb LT.ok_dead
 (LT.ok_nb LT.ok_dead
 (LT.ok_nb (LT.ok_leaf (by kernel_rfl))
 (LT.ok_leaf (by kernel_rfl)))))))))))))))))))))))))))))))
 LT.ok_dead))
 LT.ok_dead)
 (LT.ok_nb (LT.ok_nb (LT.ok_nb (LT.ok_nb LT.ok_dead
 (LT.ok_nb LT.ok_dead
 (LT.ok_nb LT.ok_dead
 (LT.ok_nb LT.ok_dead
 (LT.ok_nb LT.ok_dead
 (LT.ok_nb LT.ok_dead
 (LT.ok_nb LT.ok_dead
 (LT.ok_nb LT.ok_dead
 (LT.ok_nb LT.ok_dead
 (LT.ok_nb LT.ok_dead
 (LT.ok_nb LT.ok_dead
 (LT.ok_nb LT.ok_dead
 (LT.ok_nb LT.ok_dead
 (LT.ok_nb LT.ok_dead
 (LT.ok_nb LT.ok_dead
 (LT.ok_nb LT.ok_dead
 (LT.ok_nb LT.ok_dead
 (LT.ok_nb LT.ok_dead
 (LT.ok_nb LT.ok_dead
 (LT.ok_nb LT.ok_dead
 (LT.ok_nb LT.ok_dead
 (LT.ok_nb LT.ok_dead
 (LT.ok_nb LT.ok_dead
 (LT.ok_nb LT.ok_dead
 (LT.ok_nb LT.ok_dead
 (LT.ok_nb LT.ok_dead
 (LT.ok_nb LT.ok_dead
 (LT.ok_nb LT.ok_dead
 (LT.ok_nb (LT.ok_leaf (by kernel_rfl))
 (LT.ok_leaf (by kernel_rfl)))))))))))))))))))))))))))))))
 LT.ok_dead)
 (LT.ok_nb (LT.ok_nb (LT.ok_nb LT.ok_dead
 (LT.ok_nb LT.ok_dead
 (LT.ok_nb LT.ok_dead
 (LT.ok_nb LT.ok_dead
 (LT.ok_nb LT.ok_dead
 (LT.ok_nb LT.ok_dead
 (LT.ok_nb LT.ok_dead
 (LT.ok_nb LT.ok_dead
 (LT.ok_nb LT.ok_dead
 (LT.ok_nb LT.ok_dead
 (LT.ok_nb LT.ok_dead
 (LT.ok_nb LT.ok_dead
 (LT.ok_nb LT.ok_dead
 (LT.ok_nb LT.ok_dead
 (LT.ok_nb LT.ok_dead
 (LT.ok_nb LT.ok_dead
 (LT.ok_nb LT.ok_dead
 (LT.ok_nb LT.ok_dead
 (LT.ok_nb LT.ok_dead
 (LT.ok_nb LT.ok_dead
 (LT.ok_nb LT.ok_dead
 (LT.ok_nb LT.ok_dead
 (LT.ok_nb LT.ok_dead
 (LT.ok_nb LT.ok_dead
 (LT.ok_nb LT.ok_dead
 (LT.ok_nb LT.ok_dead
 (LT.ok_nb LT.ok_dead
 (LT.ok_nb (LT.ok_leaf (by kernel_rfl))
 (LT.ok_leaf (by kernel_rfl))))))))))))))))))))))))))))))
 (LT.ok_nb LT.ok_dead
 (LT.ok_nb LT.ok_dead
 (LT.ok_nb LT.ok_dead
 (LT.ok_nb LT.ok_dead
 (LT.ok_nb LT.ok_dead
 (LT.ok_nb LT.ok_dead
 (LT.ok_nb LT.ok_dead
 (LT.ok_nb LT.ok_dead
 (LT.ok_nb LT.ok_dead
 (LT.ok_nb LT.ok_dead
 (LT.ok_nb LT.ok_dead
 (LT.ok_nb LT.ok_dead
 (LT.ok_nb LT.ok_dead
 (LT.ok_nb LT.ok_dead
 (LT.ok_nb LT.ok_dead
 (LT.ok_nb LT.ok_dead
 (LT.ok_nb LT.ok_dead
 (LT.ok_nb LT.ok_dead
 (LT.ok_nb LT.ok_dead
 (LT.ok_nb LT.ok_dead
 (LT.ok_nb LT.ok_dead
 (LT.ok_nb LT.ok_dead
 (LT.ok_nb LT.ok_dead
 (LT.ok_nb LT.ok_dead
 (LT.ok_nb LT.ok_dead
 (LT.ok_nb LT.ok_dead
 (LT.ok_nb LT.ok_dead
 (LT.ok_leaf (by kernel_rfl))))))))))))))))))))))))))))))
 LT.ok_dead))
 LT.ok_dead))
 (LT.ok_nb LT.ok_dead
 (LT.ok_nb LT.ok_dead
 (LT.ok_nb (LT.ok_nb (LT.ok_nb (LT.ok_nb LT.ok_dead
 (LT.ok_nb (LT.ok_nb LT.ok_dead
 (LT.ok_nb (LT.ok_nb LT.ok_dead
 (LT.ok_nb (LT.ok_nb LT.ok_dead
 (LT.ok_nb (LT.ok_nb LT.ok_dead
 (LT.ok_nb (LT.ok_nb LT.ok_dead
 (LT.ok_nb (LT.ok_nb LT.ok_dead
 (LT.ok_nb (LT.ok_nb LT.ok_dead
 (LT.ok_nb LT.ok_dead
 (LT.ok_nb LT.ok_dead
 (LT.ok_nb LT.ok_dead
 (LT.ok_nb LT.ok_dead
 (LT.ok_nb LT.ok_dead
 (LT.ok_nb LT.ok_dead
 (LT.ok_nb LT.ok_dead
 (LT.ok_nb LT.ok_dead
 (LT.ok_nb LT.ok_dead
 (LT.ok_nb LT.ok_dead
 (LT.ok_nb LT.ok_dead
 (LT.ok_nb LT.ok_dead
 (LT.ok_nb LT.ok_dead
 (LT.ok_nb LT.ok_dead
 (LT.ok_nb LT.ok_dead
 (LT.ok_nb LT.ok_dead
 (LT.ok_nb LT.ok_dead
 (LT.ok_nb LT.ok_dead
 (LT.ok_nb (LT.ok_leaf (by kernel_rfl))
 (LT.ok_leaf (by kernel_rfl))))))))))))))))))))))
 LT.ok_dead))
 LT.ok_dead))
 LT.ok_dead))
 LT.ok_dead))
 LT.ok_dead))
 LT.ok_dead))
 LT.ok_dead))
 LT.ok_dead)
 (LT.ok_nb rvFindT0_ok
 LT.ok_dead))
 (LT.ok_nb LT.ok_dead
 (LT.ok_nb LT.ok_dead
 (LT.ok_nb LT.ok_dead
 (LT.ok_nb LT.ok_dead
 (LT.ok_nb LT.ok_dead
 (LT.ok_nb LT.ok_dead
 (LT.ok_nb LT.ok_dead
 (LT.ok_nb LT.ok_dead
 (LT.ok_nb (LT.ok_nb (LT.ok_nb (LT.ok_nb (LT.ok_nb (LT.ok_nb LT.ok_dead
 (LT.ok_nb (LT.ok_nb LT.ok_dead
 (LT.ok_nb (LT.ok_nb LT.ok_dead
 (LT.ok_nb (LT.ok_nb LT.ok_dead
 (LT.ok_nb (LT.ok_nb LT.ok_dead
 (LT.ok_nb (LT.ok_nb LT.ok_dead
 (LT.ok_nb (LT.ok_nb LT.ok_dead
 (LT.ok_nb (LT.ok_nb LT.ok_dead
 (LT.ok_nb (LT.ok_nb (LT.ok_nb (LT.ok_nb LT.ok_dead
 (LT.ok_nb (LT.ok_nb LT.ok_dead
 (LT.ok_nb (LT.ok_nb LT.ok_dead
 (LT.ok_nb (LT.ok_nb LT.ok_dead
 (LT.ok_nb (LT.ok_nb LT.ok_dead
 (LT.ok_nb (LT.ok_nb LT.ok_dead
 (LT.ok_nb (LT.ok_nb LT.ok_dead
 (LT.ok_nb (LT.ok_leaf (by kernel_rfl))
 (LT.ok_nb (LT.ok_leaf (by kernel_rfl))
 (LT.ok_nb (LT.ok_leaf (by kernel_rfl))
 (LT.ok_leaf (by kernel_rfl))))))
 LT.ok_dead))
 LT.ok_dead))
 LT.ok_dead))
 LT.ok_dead))
 LT.ok_dead))
 LT.ok_dead))
 LT.ok_dead)
 LT.ok_dead)
 LT.ok_dead))
 LT.ok_dead))
 LT.ok_dead))
 LT.ok_dead))
 LT.ok_dead))
 LT.ok_dead))
 LT.ok_dead))
 LT.ok_dead))
 LT.ok_dead)
 LT.ok_dead)
 LT.ok_dead)
 (LT.ok_nb (LT.ok_nb LT.ok_dead
 (LT.ok_nb (LT.ok_nb (LT.ok_nb (LT.ok_nb LT.ok_dead
 (LT.ok_nb (LT.ok_nb LT.ok_dead
 (LT.ok_nb (LT.ok_nb LT.ok_dead
 (LT.ok_nb (LT.ok_nb LT.ok_dead
 (LT.ok_nb (LT.ok_nb LT.ok_dead
 (LT.ok_nb (LT.ok_nb LT.ok_dead
 (LT.ok_nb (LT.ok_nb LT.ok_dead
 (LT.ok_nb (LT.ok_nb LT.ok_dead
 (LT.ok_nb (LT.ok_nb (LT.ok_nb (LT.ok_nb LT.ok_dead
 (LT.ok_nb (LT.ok_nb LT.ok_dead
 (LT.ok_nb (LT.ok_nb LT.ok_dead
 (LT.ok_nb (LT.ok_nb LT.ok_dead
 (LT.ok_nb (LT.ok_nb LT.ok_dead
 (LT.ok_nb (LT.ok_nb LT.ok_dead
 (LT.ok_nb (LT.ok_leaf (by kernel_rfl))
 (LT.ok_nb (LT.ok_leaf (by kernel_rfl))
 (LT.ok_leaf (by kernel_rfl)))))
 LT.ok_dead))
 LT.ok_dead))
 LT.ok_dead))
 LT.ok_dead))
 LT.ok_dead))
 LT.ok_dead)
 LT.ok_dead)
 LT.ok_dead))
 LT.ok_dead))
 LT.ok_dead))
 LT.ok_dead))
 LT.ok_dead))
 LT.ok_dead))
 LT.ok_dead))
 LT.ok_dead))
 LT.ok_dead)
 (LT.ok_nb (LT.ok_nb (LT.ok_nb (LT.ok_nb LT.ok_dead
 (LT.ok_nb (LT.ok_nb LT.ok_dead
 (LT.ok_nb (LT.ok_nb LT.ok_dead
 (LT.ok_nb (LT.ok_nb LT.ok_dead
 (LT.ok_nb (LT.ok_nb LT.ok_dead
 (LT.ok_nb (LT.ok_nb LT.ok_dead
 (LT.ok_nb (LT.ok_nb LT.ok_dead
 (LT.ok_nb (LT.ok_nb LT.ok_dead
 (LT.ok_nb (LT.ok_nb (LT.ok_nb (LT.ok_nb LT.ok_dead
 (LT.ok_nb (LT.ok_nb LT.ok_dead
 (LT.ok_nb (LT.ok_nb LT.ok_dead
 (LT.ok_nb (LT.ok_nb LT.ok_dead
 (LT.ok_nb (LT.ok_nb LT.ok_dead
 (LT.ok_nb (LT.ok_leaf (by kernel_rfl))
 (LT.ok_nb (LT.ok_leaf (by kernel_rfl))
 (LT.ok_leaf (by kernel_rfl)))))
 LT.ok_dead))
 LT.ok_dead))
 LT.ok_dead))
 LT.ok_dead))
 LT.ok_dead)
 LT.ok_dead)
 LT.ok_dead))
 LT.ok_dead))
 LT.ok_dead))
 LT.ok_dead))
 LT.ok_dead))
 LT.ok_dead))
 LT.ok_dead))
 LT.ok_dead))
 LT.ok_dead)
 (LT.ok_nb rvFindT1_ok
 LT.ok_dead))
 LT.ok_dead))
 LT.ok_dead))
 LT.ok_dead))
 (LT.ok_nb LT.ok_dead
 (LT.ok_nb LT.ok_dead
 (LT.ok_nb LT.ok_dead
 (LT.ok_nb LT.ok_dead
 (LT.ok_nb LT.ok_dead
 (LT.ok_nb LT.ok_dead
 (LT.ok_nb LT.ok_dead
 (LT.ok_nb LT.ok_dead
 (LT.ok_nb LT.ok_dead
 (LT.ok_nb LT.ok_dead
 (LT.ok_nb LT.ok_dead
 (LT.ok_nb LT.ok_dead
 (LT.ok_nb LT.ok_dead
 (LT.ok_nb LT.ok_dead
 (LT.ok_nb LT.ok_dead
 (LT.ok_nb LT.ok_dead
 (LT.ok_nb LT.ok_dead
 (LT.ok_leaf (by kernel_rfl))))))))))))))))))))))))))))))))
noncomputable def rvFindT3 : LT :=
 (.nb [.setB0 7 (.cmp .eql (.lit 99) (.var 0))] 7
 (.nb [.setB0 8 (.cmp .eql (.lit 0) (.var 1))] 8
 (.nb [.setB0 9 (.cmp .eql (.lit 99) (.var 0))] 9
 (.nb [.setB0 10 (.cmp .eql (.lit 1) (.var 1))] 10
 (.dead [])
 (.nb [.setB0 11 (.cmp .eql (.lit 99) (.var 0))] 11
 (.nb [.setB0 12 (.cmp .eql (.lit 4) (.var 1))] 12
 (.dead [])
 (.nb [.setB0 13 (.cmp .eql (.lit 99) (.var 0))] 13
 (.nb [.setB0 14 (.cmp .eql (.lit 5) (.var 1))] 14
 (.dead [])
 (.nb [.setB0 15 (.cmp .eql (.lit 99) (.var 0))] 15
 (.nb [.setB0 16 (.cmp .eql (.lit 6) (.var 1))] 16
 (.dead [])
 (.nb [.setB0 17 (.cmp .eql (.lit 99) (.var 0))] 17
 (.nb [.setB0 18 (.cmp .eql (.lit 7) (.var 1))] 18
 (.dead [])
 (.nb [.setB0 19 (.cmp .eql (.lit 3) (.var 0))] 19
 (.dead [])
 (.nb [.setB0 20 (.cmp .eql (.lit 3) (.var 0))] 20
 (.dead [])
 (.nb [.setB0 21 (.cmp .eql (.lit 3) (.var 0))] 21
 (.dead [])
 (.nb [.setB0 22 (.cmp .eql (.lit 3) (.var 0))] 22
 (.dead [])
 (.nb [.setB0 23 (.cmp .eql (.lit 3) (.var 0))] 23
 (.dead [])
 (.nb [.setB0 24 (.cmp .eql (.lit 35) (.var 0))] 24
 (.dead [])
 (.nb [.setB0 25 (.cmp .eql (.lit 35) (.var 0))] 25
 (.dead [])
 (.nb [.setB0 26 (.cmp .eql (.lit 35) (.var 0))] 26
 (.dead [])
 (.nb [.setB0 27 (.cmp .eql (.lit 19) (.var 0))] 27
 (.dead [])
 (.nb [.setB0 28 (.cmp .eql (.lit 19) (.var 0))] 28
 (.dead [])
 (.nb [.setB0 29 (.cmp .eql (.lit 19) (.var 0))] 29
 (.dead [])
 (.nb [.setB0 30 (.cmp .eql (.lit 19) (.var 0))] 30
 (.dead [])
 (.nb [.setB0 31 (.cmp .eql (.lit 19) (.var 0))] 31
 (.dead [])
 (.nb [.setB0 32 (.cmp .eql (.lit 19) (.var 0))] 32
 (.dead [])
 (.nb [.setB0 33 (.cmp .eql (.lit 19) (.var 0))] 33
 (.dead [])
 (.nb [.setB0 34 (.cmp .eql (.lit 19) (.var 0))] 34
 (.dead [])
 (.nb [.setB0 35 (.cmp .eql (.lit 19) (.var 0))] 35
 (.dead [])
 (.nb [.setB0 36 (.cmp .eql (.lit 51) (.var 0))] 36
 (.dead [])
 (.nb [.setB0 37 (.cmp .eql (.lit 51) (.var 0))] 37
 (.dead [])
 (.nb [.setB0 38 (.cmp .eql (.lit 51) (.var 0))] 38
 (.dead [])
 (.nb [.setB0 39 (.cmp .eql (.lit 51) (.var 0))] 39
 (.dead [])
 (.nb [.setB0 40 (.cmp .eql (.lit 51) (.var 0))] 40
 (.dead [])
 (.nb [.setB0 41 (.cmp .eql (.lit 51) (.var 0))] 41
 (.dead [])
 (.nb [.setB0 42 (.cmp .eql (.lit 51) (.var 0))] 42
 (.dead [])
 (.nb [.setB0 43 (.cmp .eql (.lit 51) (.var 0))] 43
 (.dead [])
 (.nb [.setB0 44 (.cmp .eql (.lit 51) (.var 0))] 44
 (.dead [])
 (.nb [.setB0 45 (.cmp .eql (.lit 51) (.var 0))] 45
 (.dead [])
 (.nb [.setB0 46 (.cmp .eql (.lit 51) (.var 0))] 46
 (.dead [])
 (.nb [.setB0 47 (.cmp .eql (.lit 51) (.var 0))] 47
 (.dead [])
 (.nb [.setB0 48 (.cmp .eql (.lit 51) (.var 0))] 48
 (.dead [])
 (.nb [.setB0 49 (.cmp .eql (.lit 51) (.var 0))] 49
 (.dead [])
 (.nb [.setB0 50 (.cmp .eql (.lit 51) (.var 0))] 50
 (.dead [])
 (.nb [.setB0 51 (.cmp .eql (.lit 51) (.var 0))] 51
 (.dead [])
 (.nb [.setB0 52 (.cmp .eql (.lit 51) (.var 0))] 52
 (.dead [])
 (.nb [.setB0 53 (.cmp .eql (.lit 51) (.var 0))] 53
 (.dead [])
 (.nb [.setB0 54 (.all [(.ii (.var 0) (.lit 99)), (.ii (.var 1) (.lit 0)), (.ii (.var 2) (.lit 0))])] 54
 (.leaf [] (.w (.c (.lit (.int .i64 5)))))
 (.leaf [] (.w (.c (.lit (.int .i64 0))))))))))))))))))))))))))))))))))))))))))
 (.dead [])))
 (.dead [])))
 (.dead [])))
 (.dead [])))
 (.dead []))
 (.nb [.setB0 9 (.cmp .eql (.lit 99) (.var 0))] 9
 (.nb [.setB0 10 (.cmp .eql (.lit 1) (.var 1))] 10
 (.nb [.setB0 11 (.cmp .eql (.lit 99) (.var 0))] 11
 (.nb [.setB0 12 (.cmp .eql (.lit 4) (.var 1))] 12
 (.dead [])
 (.nb [.setB0 13 (.cmp .eql (.lit 99) (.var 0))] 13
 (.nb [.setB0 14 (.cmp .eql (.lit 5) (.var 1))] 14
 (.dead [])
 (.nb [.setB0 15 (.cmp .eql (.lit 99) (.var 0))] 15
 (.nb [.setB0 16 (.cmp .eql (.lit 6) (.var 1))] 16
 (.dead [])
 (.nb [.setB0 17 (.cmp .eql (.lit 99) (.var 0))] 17
 (.nb [.setB0 18 (.cmp .eql (.lit 7) (.var 1))] 18
 (.dead [])
 (.nb [.setB0 19 (.cmp .eql (.lit 3) (.var 0))] 19
 (.dead [])
 (.nb [.setB0 20 (.cmp .eql (.lit 3) (.var 0))] 20
 (.dead [])
 (.nb [.setB0 21 (.cmp .eql (.lit 3) (.var 0))] 21
 (.dead [])
 (.nb [.setB0 22 (.cmp .eql (.lit 3) (.var 0))] 22
 (.dead [])
 (.nb [.setB0 23 (.cmp .eql (.lit 3) (.var 0))] 23
 (.dead [])
 (.nb [.setB0 24 (.cmp .eql (.lit 35) (.var 0))] 24
 (.dead [])
 (.nb [.setB0 25 (.cmp .eql (.lit 35) (.var 0))] 25
 (.dead [])
 (.nb [.setB0 26 (.cmp .eql (.lit 35) (.var 0))] 26
 (.dead [])
 (.nb [.setB0 27 (.cmp .eql (.lit 19) (.var 0))] 27
 (.dead [])
 (.nb [.setB0 28 (.cmp .eql (.lit 19) (.var 0))] 28
 (.dead [])
 (.nb [.setB0 29 (.cmp .eql (.lit 19) (.var 0))] 29
 (.dead [])
 (.nb [.setB0 30 (.cmp .eql (.lit 19) (.var 0))] 30
 (.dead [])
 (.nb [.setB0 31 (.cmp .eql (.lit 19) (.var 0))] 31
 (.dead [])
 (.nb [.setB0 32 (.cmp .eql (.lit 19) (.var 0))] 32
 (.dead [])
 (.nb [.setB0 33 (.cmp .eql (.lit 19) (.var 0))] 33
 (.dead [])
 (.nb [.setB0 34 (.cmp .eql (.lit 19) (.var 0))] 34
 (.dead [])
 (.nb [.setB0 35 (.cmp .eql (.lit 19) (.var 0))] 35
 (.dead [])
 (.nb [.setB0 36 (.cmp .eql (.lit 51) (.var 0))] 36
 (.dead [])
 (.nb [.setB0 37 (.cmp .eql (.lit 51) (.var 0))] 37
 (.dead [])
 (.nb [.setB0 38 (.cmp .eql (.lit 51) (.var 0))] 38
 (.dead [])
 (.nb [.setB0 39 (.cmp .eql (.lit 51) (.var 0))] 39
 (.dead [])
 (.nb [.setB0 40 (.cmp .eql (.lit 51) (.var 0))] 40
 (.dead [])
 (.nb [.setB0 41 (.cmp .eql (.lit 51) (.var 0))] 41
 (.dead [])
 (.nb [.setB0 42 (.cmp .eql (.lit 51) (.var 0))] 42
 (.dead [])
 (.nb [.setB0 43 (.cmp .eql (.lit 51) (.var 0))] 43
 (.dead [])
 (.nb [.setB0 44 (.cmp .eql (.lit 51) (.var 0))] 44
 (.dead [])
 (.nb [.setB0 45 (.cmp .eql (.lit 51) (.var 0))] 45
 (.dead [])
 (.nb [.setB0 46 (.cmp .eql (.lit 51) (.var 0))] 46
 (.dead [])
 (.nb [.setB0 47 (.cmp .eql (.lit 51) (.var 0))] 47
 (.dead [])
 (.nb [.setB0 48 (.cmp .eql (.lit 51) (.var 0))] 48
 (.dead [])
 (.nb [.setB0 49 (.cmp .eql (.lit 51) (.var 0))] 49
 (.dead [])
 (.nb [.setB0 50 (.cmp .eql (.lit 51) (.var 0))] 50
 (.dead [])
 (.nb [.setB0 51 (.cmp .eql (.lit 51) (.var 0))] 51
 (.dead [])
 (.nb [.setB0 52 (.cmp .eql (.lit 51) (.var 0))] 52
 (.dead [])
 (.nb [.setB0 53 (.cmp .eql (.lit 51) (.var 0))] 53
 (.dead [])
 (.nb [.setB0 54 (.all [(.ii (.var 0) (.lit 99)), (.ii (.var 1) (.lit 1)), (.ii (.var 2) (.lit 0))])] 54
 (.leaf [] (.w (.c (.lit (.int .i64 6)))))
 (.leaf [] (.w (.c (.lit (.int .i64 0))))))))))))))))))))))))))))))))))))))))))
 (.dead [])))
 (.dead [])))
 (.dead [])))
 (.dead []))
 (.nb [.setB0 11 (.cmp .eql (.lit 99) (.var 0))] 11
 (.nb [.setB0 12 (.cmp .eql (.lit 4) (.var 1))] 12
 (.nb [.setB0 13 (.cmp .eql (.lit 99) (.var 0))] 13
 (.nb [.setB0 14 (.cmp .eql (.lit 5) (.var 1))] 14
 (.dead [])
 (.nb [.setB0 15 (.cmp .eql (.lit 99) (.var 0))] 15
 (.nb [.setB0 16 (.cmp .eql (.lit 6) (.var 1))] 16
 (.dead [])
 (.nb [.setB0 17 (.cmp .eql (.lit 99) (.var 0))] 17
 (.nb [.setB0 18 (.cmp .eql (.lit 7) (.var 1))] 18
 (.dead [])
 (.nb [.setB0 19 (.cmp .eql (.lit 3) (.var 0))] 19
 (.dead [])
 (.nb [.setB0 20 (.cmp .eql (.lit 3) (.var 0))] 20
 (.dead [])
 (.nb [.setB0 21 (.cmp .eql (.lit 3) (.var 0))] 21
 (.dead [])
 (.nb [.setB0 22 (.cmp .eql (.lit 3) (.var 0))] 22
 (.dead [])
 (.nb [.setB0 23 (.cmp .eql (.lit 3) (.var 0))] 23
 (.dead [])
 (.nb [.setB0 24 (.cmp .eql (.lit 35) (.var 0))] 24
 (.dead [])
 (.nb [.setB0 25 (.cmp .eql (.lit 35) (.var 0))] 25
 (.dead [])
 (.nb [.setB0 26 (.cmp .eql (.lit 35) (.var 0))] 26
 (.dead [])
 (.nb [.setB0 27 (.cmp .eql (.lit 19) (.var 0))] 27
 (.dead [])
 (.nb [.setB0 28 (.cmp .eql (.lit 19) (.var 0))] 28
 (.dead [])
 (.nb [.setB0 29 (.cmp .eql (.lit 19) (.var 0))] 29
 (.dead [])
 (.nb [.setB0 30 (.cmp .eql (.lit 19) (.var 0))] 30
 (.dead [])
 (.nb [.setB0 31 (.cmp .eql (.lit 19) (.var 0))] 31
 (.dead [])
 (.nb [.setB0 32 (.cmp .eql (.lit 19) (.var 0))] 32
 (.dead [])
 (.nb [.setB0 33 (.cmp .eql (.lit 19) (.var 0))] 33
 (.dead [])
 (.nb [.setB0 34 (.cmp .eql (.lit 19) (.var 0))] 34
 (.dead [])
 (.nb [.setB0 35 (.cmp .eql (.lit 19) (.var 0))] 35
 (.dead [])
 (.nb [.setB0 36 (.cmp .eql (.lit 51) (.var 0))] 36
 (.dead [])
 (.nb [.setB0 37 (.cmp .eql (.lit 51) (.var 0))] 37
 (.dead [])
 (.nb [.setB0 38 (.cmp .eql (.lit 51) (.var 0))] 38
 (.dead [])
 (.nb [.setB0 39 (.cmp .eql (.lit 51) (.var 0))] 39
 (.dead [])
 (.nb [.setB0 40 (.cmp .eql (.lit 51) (.var 0))] 40
 (.dead [])
 (.nb [.setB0 41 (.cmp .eql (.lit 51) (.var 0))] 41
 (.dead [])
 (.nb [.setB0 42 (.cmp .eql (.lit 51) (.var 0))] 42
 (.dead [])
 (.nb [.setB0 43 (.cmp .eql (.lit 51) (.var 0))] 43
 (.dead [])
 (.nb [.setB0 44 (.cmp .eql (.lit 51) (.var 0))] 44
 (.dead [])
 (.nb [.setB0 45 (.cmp .eql (.lit 51) (.var 0))] 45
 (.dead [])
 (.nb [.setB0 46 (.cmp .eql (.lit 51) (.var 0))] 46
 (.dead [])
 (.nb [.setB0 47 (.cmp .eql (.lit 51) (.var 0))] 47
 (.dead [])
 (.nb [.setB0 48 (.cmp .eql (.lit 51) (.var 0))] 48
 (.dead [])
 (.nb [.setB0 49 (.cmp .eql (.lit 51) (.var 0))] 49
 (.dead [])
 (.nb [.setB0 50 (.cmp .eql (.lit 51) (.var 0))] 50
 (.dead [])
 (.nb [.setB0 51 (.cmp .eql (.lit 51) (.var 0))] 51
 (.dead [])
 (.nb [.setB0 52 (.cmp .eql (.lit 51) (.var 0))] 52
 (.dead [])
 (.nb [.setB0 53 (.cmp .eql (.lit 51) (.var 0))] 53
 (.dead [])
 (.nb [.setB0 54 (.all [(.ii (.var 0) (.lit 99)), (.ii (.var 1) (.lit 4)), (.ii (.var 2) (.lit 0))])] 54
 (.leaf [] (.w (.c (.lit (.int .i64 7)))))
 (.leaf [] (.w (.c (.lit (.int .i64 0))))))))))))))))))))))))))))))))))))))))))
 (.dead [])))
 (.dead [])))
 (.dead []))
 (.nb [.setB0 13 (.cmp .eql (.lit 99) (.var 0))] 13
 (.nb [.setB0 14 (.cmp .eql (.lit 5) (.var 1))] 14
 (.nb [.setB0 15 (.cmp .eql (.lit 99) (.var 0))] 15
 (.nb [.setB0 16 (.cmp .eql (.lit 6) (.var 1))] 16
 (.dead [])
 (.nb [.setB0 17 (.cmp .eql (.lit 99) (.var 0))] 17
 (.nb [.setB0 18 (.cmp .eql (.lit 7) (.var 1))] 18
 (.dead [])
 (.nb [.setB0 19 (.cmp .eql (.lit 3) (.var 0))] 19
 (.dead [])
 (.nb [.setB0 20 (.cmp .eql (.lit 3) (.var 0))] 20
 (.dead [])
 (.nb [.setB0 21 (.cmp .eql (.lit 3) (.var 0))] 21
 (.dead [])
 (.nb [.setB0 22 (.cmp .eql (.lit 3) (.var 0))] 22
 (.dead [])
 (.nb [.setB0 23 (.cmp .eql (.lit 3) (.var 0))] 23
 (.dead [])
 (.nb [.setB0 24 (.cmp .eql (.lit 35) (.var 0))] 24
 (.dead [])
 (.nb [.setB0 25 (.cmp .eql (.lit 35) (.var 0))] 25
 (.dead [])
 (.nb [.setB0 26 (.cmp .eql (.lit 35) (.var 0))] 26
 (.dead [])
 (.nb [.setB0 27 (.cmp .eql (.lit 19) (.var 0))] 27
 (.dead [])
 (.nb [.setB0 28 (.cmp .eql (.lit 19) (.var 0))] 28
 (.dead [])
 (.nb [.setB0 29 (.cmp .eql (.lit 19) (.var 0))] 29
 (.dead [])
 (.nb [.setB0 30 (.cmp .eql (.lit 19) (.var 0))] 30
 (.dead [])
 (.nb [.setB0 31 (.cmp .eql (.lit 19) (.var 0))] 31
 (.dead [])
 (.nb [.setB0 32 (.cmp .eql (.lit 19) (.var 0))] 32
 (.dead [])
 (.nb [.setB0 33 (.cmp .eql (.lit 19) (.var 0))] 33
 (.dead [])
 (.nb [.setB0 34 (.cmp .eql (.lit 19) (.var 0))] 34
 (.dead [])
 (.nb [.setB0 35 (.cmp .eql (.lit 19) (.var 0))] 35
 (.dead [])
 (.nb [.setB0 36 (.cmp .eql (.lit 51) (.var 0))] 36
 (.dead [])
 (.nb [.setB0 37 (.cmp .eql (.lit 51) (.var 0))] 37
 (.dead [])
 (.nb [.setB0 38 (.cmp .eql (.lit 51) (.var 0))] 38
 (.dead [])
 (.nb [.setB0 39 (.cmp .eql (.lit 51) (.var 0))] 39
 (.dead [])
 (.nb [.setB0 40 (.cmp .eql (.lit 51) (.var 0))] 40
 (.dead [])
 (.nb [.setB0 41 (.cmp .eql (.lit 51) (.var 0))] 41
 (.dead [])
 (.nb [.setB0 42 (.cmp .eql (.lit 51) (.var 0))] 42
 (.dead [])
 (.nb [.setB0 43 (.cmp .eql (.lit 51) (.var 0))] 43
 (.dead [])
 (.nb [.setB0 44 (.cmp .eql (.lit 51) (.var 0))] 44
 (.dead [])
 (.nb [.setB0 45 (.cmp .eql (.lit 51) (.var 0))] 45
 (.dead [])
 (.nb [.setB0 46 (.cmp .eql (.lit 51) (.var 0))] 46
 (.dead [])
 (.nb [.setB0 47 (.cmp .eql (.lit 51) (.var 0))] 47
 (.dead [])
 (.nb [.setB0 48 (.cmp .eql (.lit 51) (.var 0))] 48
 (.dead [])
 (.nb [.setB0 49 (.cmp .eql (.lit 51) (.var 0))] 49
 (.dead [])
 (.nb [.setB0 50 (.cmp .eql (.lit 51) (.var 0))] 50
 (.dead [])
 (.nb [.setB0 51 (.cmp .eql (.lit 51) (.var 0))] 51
 (.dead [])
 (.nb [.setB0 52 (.cmp .eql (.lit 51) (.var 0))] 52
 (.dead [])
 (.nb [.setB0 53 (.cmp .eql (.lit 51) (.var 0))] 53
 (.dead [])
 (.nb [.setB0 54 (.all [(.ii (.var 0) (.lit 99)), (.ii (.var 1) (.lit 5)), (.ii (.var 2) (.lit 0))])] 54
 (.leaf [] (.w (.c (.lit (.int .i64 8)))))
 (.leaf [] (.w (.c (.lit (.int .i64 0))))))))))))))))))))))))))))))))))))))))))
 (.dead [])))
 (.dead []))
 (.nb [.setB0 15 (.cmp .eql (.lit 99) (.var 0))] 15
 (.nb [.setB0 16 (.cmp .eql (.lit 6) (.var 1))] 16
 (.nb [.setB0 17 (.cmp .eql (.lit 99) (.var 0))] 17
 (.nb [.setB0 18 (.cmp .eql (.lit 7) (.var 1))] 18
 (.dead [])
 (.nb [.setB0 19 (.cmp .eql (.lit 3) (.var 0))] 19
 (.dead [])
 (.nb [.setB0 20 (.cmp .eql (.lit 3) (.var 0))] 20
 (.dead [])
 (.nb [.setB0 21 (.cmp .eql (.lit 3) (.var 0))] 21
 (.dead [])
 (.nb [.setB0 22 (.cmp .eql (.lit 3) (.var 0))] 22
 (.dead [])
 (.nb [.setB0 23 (.cmp .eql (.lit 3) (.var 0))] 23
 (.dead [])
 (.nb [.setB0 24 (.cmp .eql (.lit 35) (.var 0))] 24
 (.dead [])
 (.nb [.setB0 25 (.cmp .eql (.lit 35) (.var 0))] 25
 (.dead [])
 (.nb [.setB0 26 (.cmp .eql (.lit 35) (.var 0))] 26
 (.dead [])
 (.nb [.setB0 27 (.cmp .eql (.lit 19) (.var 0))] 27
 (.dead [])
 (.nb [.setB0 28 (.cmp .eql (.lit 19) (.var 0))] 28
 (.dead [])
 (.nb [.setB0 29 (.cmp .eql (.lit 19) (.var 0))] 29
 (.dead [])
 (.nb [.setB0 30 (.cmp .eql (.lit 19) (.var 0))] 30
 (.dead [])
 (.nb [.setB0 31 (.cmp .eql (.lit 19) (.var 0))] 31
 (.dead [])
 (.nb [.setB0 32 (.cmp .eql (.lit 19) (.var 0))] 32
 (.dead [])
 (.nb [.setB0 33 (.cmp .eql (.lit 19) (.var 0))] 33
 (.dead [])
 (.nb [.setB0 34 (.cmp .eql (.lit 19) (.var 0))] 34
 (.dead [])
 (.nb [.setB0 35 (.cmp .eql (.lit 19) (.var 0))] 35
 (.dead [])
 (.nb [.setB0 36 (.cmp .eql (.lit 51) (.var 0))] 36
 (.dead [])
 (.nb [.setB0 37 (.cmp .eql (.lit 51) (.var 0))] 37
 (.dead [])
 (.nb [.setB0 38 (.cmp .eql (.lit 51) (.var 0))] 38
 (.dead [])
 (.nb [.setB0 39 (.cmp .eql (.lit 51) (.var 0))] 39
 (.dead [])
 (.nb [.setB0 40 (.cmp .eql (.lit 51) (.var 0))] 40
 (.dead [])
 (.nb [.setB0 41 (.cmp .eql (.lit 51) (.var 0))] 41
 (.dead [])
 (.nb [.setB0 42 (.cmp .eql (.lit 51) (.var 0))] 42
 (.dead [])
 (.nb [.setB0 43 (.cmp .eql (.lit 51) (.var 0))] 43
 (.dead [])
 (.nb [.setB0 44 (.cmp .eql (.lit 51) (.var 0))] 44
 (.dead [])
 (.nb [.setB0 45 (.cmp .eql (.lit 51) (.var 0))] 45
 (.dead [])
 (.nb [.setB0 46 (.cmp .eql (.lit 51) (.var 0))] 46
 (.dead [])
 (.nb [.setB0 47 (.cmp .eql (.lit 51) (.var 0))] 47
 (.dead [])
 (.nb [.setB0 48 (.cmp .eql (.lit 51) (.var 0))] 48
 (.dead [])
 (.nb [.setB0 49 (.cmp .eql (.lit 51) (.var 0))] 49
 (.dead [])
 (.nb [.setB0 50 (.cmp .eql (.lit 51) (.var 0))] 50
 (.dead [])
 (.nb [.setB0 51 (.cmp .eql (.lit 51) (.var 0))] 51
 (.dead [])
 (.nb [.setB0 52 (.cmp .eql (.lit 51) (.var 0))] 52
 (.dead [])
 (.nb [.setB0 53 (.cmp .eql (.lit 51) (.var 0))] 53
 (.dead [])
 (.nb [.setB0 54 (.all [(.ii (.var 0) (.lit 99)), (.ii (.var 1) (.lit 6)), (.ii (.var 2) (.lit 0))])] 54
 (.leaf [] (.w (.c (.lit (.int .i64 9)))))
 (.leaf [] (.w (.c (.lit (.int .i64 0))))))))))))))))))))))))))))))))))))))))))
 (.dead []))
 (.nb [.setB0 17 (.cmp .eql (.lit 99) (.var 0))] 17
 (.nb [.setB0 18 (.cmp .eql (.lit 7) (.var 1))] 18
 (.nb [.setB0 19 (.cmp .eql (.lit 3) (.var 0))] 19
 (.dead [])
 (.nb [.setB0 20 (.cmp .eql (.lit 3) (.var 0))] 20
 (.dead [])
 (.nb [.setB0 21 (.cmp .eql (.lit 3) (.var 0))] 21
 (.dead [])
 (.nb [.setB0 22 (.cmp .eql (.lit 3) (.var 0))] 22
 (.dead [])
 (.nb [.setB0 23 (.cmp .eql (.lit 3) (.var 0))] 23
 (.dead [])
 (.nb [.setB0 24 (.cmp .eql (.lit 35) (.var 0))] 24
 (.dead [])
 (.nb [.setB0 25 (.cmp .eql (.lit 35) (.var 0))] 25
 (.dead [])
 (.nb [.setB0 26 (.cmp .eql (.lit 35) (.var 0))] 26
 (.dead [])
 (.nb [.setB0 27 (.cmp .eql (.lit 19) (.var 0))] 27
 (.dead [])
 (.nb [.setB0 28 (.cmp .eql (.lit 19) (.var 0))] 28
 (.dead [])
 (.nb [.setB0 29 (.cmp .eql (.lit 19) (.var 0))] 29
 (.dead [])
 (.nb [.setB0 30 (.cmp .eql (.lit 19) (.var 0))] 30
 (.dead [])
 (.nb [.setB0 31 (.cmp .eql (.lit 19) (.var 0))] 31
 (.dead [])
 (.nb [.setB0 32 (.cmp .eql (.lit 19) (.var 0))] 32
 (.dead [])
 (.nb [.setB0 33 (.cmp .eql (.lit 19) (.var 0))] 33
 (.dead [])
 (.nb [.setB0 34 (.cmp .eql (.lit 19) (.var 0))] 34
 (.dead [])
 (.nb [.setB0 35 (.cmp .eql (.lit 19) (.var 0))] 35
 (.dead [])
 (.nb [.setB0 36 (.cmp .eql (.lit 51) (.var 0))] 36
 (.dead [])
 (.nb [.setB0 37 (.cmp .eql (.lit 51) (.var 0))] 37
 (.dead [])
 (.nb [.setB0 38 (.cmp .eql (.lit 51) (.var 0))] 38
 (.dead [])
 (.nb [.setB0 39 (.cmp .eql (.lit 51) (.var 0))] 39
 (.dead [])
 (.nb [.setB0 40 (.cmp .eql (.lit 51) (.var 0))] 40
 (.dead [])
 (.nb [.setB0 41 (.cmp .eql (.lit 51) (.var 0))] 41
 (.dead [])
 (.nb [.setB0 42 (.cmp .eql (.lit 51) (.var 0))] 42
 (.dead [])
 (.nb [.setB0 43 (.cmp .eql (.lit 51) (.var 0))] 43
 (.dead [])
 (.nb [.setB0 44 (.cmp .eql (.lit 51) (.var 0))] 44
 (.dead [])
 (.nb [.setB0 45 (.cmp .eql (.lit 51) (.var 0))] 45
 (.dead [])
 (.nb [.setB0 46 (.cmp .eql (.lit 51) (.var 0))] 46
 (.dead [])
 (.nb [.setB0 47 (.cmp .eql (.lit 51) (.var 0))] 47
 (.dead [])
 (.nb [.setB0 48 (.cmp .eql (.lit 51) (.var 0))] 48
 (.dead [])
 (.nb [.setB0 49 (.cmp .eql (.lit 51) (.var 0))] 49
 (.dead [])
 (.nb [.setB0 50 (.cmp .eql (.lit 51) (.var 0))] 50
 (.dead [])
 (.nb [.setB0 51 (.cmp .eql (.lit 51) (.var 0))] 51
 (.dead [])
 (.nb [.setB0 52 (.cmp .eql (.lit 51) (.var 0))] 52
 (.dead [])
 (.nb [.setB0 53 (.cmp .eql (.lit 51) (.var 0))] 53
 (.dead [])
 (.nb [.setB0 54 (.all [(.ii (.var 0) (.lit 99)), (.ii (.var 1) (.lit 7)), (.ii (.var 2) (.lit 0))])] 54
 (.leaf [] (.w (.c (.lit (.int .i64 10)))))
 (.leaf [] (.w (.c (.lit (.int .i64 0)))))))))))))))))))))))))))))))))))))))))
 (.nb [.setB0 19 (.cmp .eql (.lit 3) (.var 0))] 19
 (.dead [])
 (.nb [.setB0 20 (.cmp .eql (.lit 3) (.var 0))] 20
 (.dead [])
 (.nb [.setB0 21 (.cmp .eql (.lit 3) (.var 0))] 21
 (.dead [])
 (.nb [.setB0 22 (.cmp .eql (.lit 3) (.var 0))] 22
 (.dead [])
 (.nb [.setB0 23 (.cmp .eql (.lit 3) (.var 0))] 23
 (.dead [])
 (.nb [.setB0 24 (.cmp .eql (.lit 35) (.var 0))] 24
 (.dead [])
 (.nb [.setB0 25 (.cmp .eql (.lit 35) (.var 0))] 25
 (.dead [])
 (.nb [.setB0 26 (.cmp .eql (.lit 35) (.var 0))] 26
 (.dead [])
 (.nb [.setB0 27 (.cmp .eql (.lit 19) (.var 0))] 27
 (.dead [])
 (.nb [.setB0 28 (.cmp .eql (.lit 19) (.var 0))] 28
 (.dead [])
 (.nb [.setB0 29 (.cmp .eql (.lit 19) (.var 0))] 29
 (.dead [])
 (.nb [.setB0 30 (.cmp .eql (.lit 19) (.var 0))] 30
 (.dead [])
 (.nb [.setB0 31 (.cmp .eql (.lit 19) (.var 0))] 31
 (.dead [])
 (.nb [.setB0 32 (.cmp .eql (.lit 19) (.var 0))] 32
 (.dead [])
 (.nb [.setB0 33 (.cmp .eql (.lit 19) (.var 0))] 33
 (.dead [])
 (.nb [.setB0 34 (.cmp .eql (.lit 19) (.var 0))] 34
 (.dead [])
 (.nb [.setB0 35 (.cmp .eql (.lit 19) (.var 0))] 35
 (.dead [])
 (.nb [.setB0 36 (.cmp .eql (.lit 51) (.var 0))] 36
 (.dead [])
 (.nb [.setB0 37 (.cmp .eql (.lit 51) (.var 0))] 37
 (.dead [])
 (.nb [.setB0 38 (.cmp .eql (.lit 51) (.var 0))] 38
 (.dead [])
 (.nb [.setB0 39 (.cmp .eql (.lit 51) (.var 0))] 39
 (.dead [])
 (.nb [.setB0 40 (.cmp .eql (.lit 51) (.var 0))] 40
 (.dead [])
 (.nb [.setB0 41 (.cmp .eql (.lit 51) (.var 0))] 41
 (.dead [])
 (.nb [.setB0 42 (.cmp .eql (.lit 51) (.var 0))] 42
 (.dead [])
 (.nb [.setB0 43 (.cmp .eql (.lit 51) (.var 0))] 43
 (.dead [])
 (.nb [.setB0 44 (.cmp .eql (.lit 51) (.var 0))] 44
 (.dead [])
 (.nb [.setB0 45 (.cmp .eql (.lit 51) (.var 0))] 45
 (.dead [])
 (.nb [.setB0 46 (.cmp .eql (.lit 51) (.var 0))] 46
 (.dead [])
 (.nb [.setB0 47 (.cmp .eql (.lit 51) (.var 0))] 47
 (.dead [])
 (.nb [.setB0 48 (.cmp .eql (.lit 51) (.var 0))] 48
 (.dead [])
 (.nb [.setB0 49 (.cmp .eql (.lit 51) (.var 0))] 49
 (.dead [])
 (.nb [.setB0 50 (.cmp .eql (.lit 51) (.var 0))] 50
 (.dead [])
 (.nb [.setB0 51 (.cmp .eql (.lit 51) (.var 0))] 51
 (.dead [])
 (.nb [.setB0 52 (.cmp .eql (.lit 51) (.var 0))] 52
 (.dead [])
 (.nb [.setB0 53 (.cmp .eql (.lit 51) (.var 0))] 53
 (.dead [])
 (.leaf [] (.w (.c (.lit (.int .i64 0)))))))))))))))))))))))))))))))))))))))))
 (.dead [])))
 (.dead [])))
 (.dead [])))
 (.dead [])))
 (.dead [])))
 (.nb [.setB0 8 (.cmp .eql (.lit 99) (.var 0))] 8
 (.dead [])
 (.nb [.setB0 9 (.cmp .eql (.lit 99) (.var 0))] 9
 (.dead [])
 (.nb [.setB0 10 (.cmp .eql (.lit 99) (.var 0))] 10
 (.dead [])
 (.nb [.setB0 11 (.cmp .eql (.lit 99) (.var 0))] 11
 (.dead [])
 (.nb [.setB0 12 (.cmp .eql (.lit 99) (.var 0))] 12
 (.dead [])
 (.nb [.setB0 13 (.cmp .eql (.lit 3) (.var 0))] 13
 (.nb [.setB0 14 (.cmp .eql (.lit 0) (.var 1))] 14
 (.nb [.setB0 15 (.cmp .eql (.lit 3) (.var 0))] 15
 (.nb [.setB0 16 (.cmp .eql (.lit 1) (.var 1))] 16
 (.dead [])
 (.nb [.setB0 17 (.cmp .eql (.lit 3) (.var 0))] 17
 (.nb [.setB0 18 (.cmp .eql (.lit 2) (.var 1))] 18
 (.dead [])
 (.nb [.setB0 19 (.cmp .eql (.lit 3) (.var 0))] 19
 (.nb [.setB0 20 (.cmp .eql (.lit 4) (.var 1))] 20
 (.dead [])
 (.nb [.setB0 21 (.cmp .eql (.lit 3) (.var 0))] 21
 (.nb [.setB0 22 (.cmp .eql (.lit 5) (.var 1))] 22
 (.dead [])
 (.nb [.setB0 23 (.cmp .eql (.lit 35) (.var 0))] 23
 (.dead [])
 (.nb [.setB0 24 (.cmp .eql (.lit 35) (.var 0))] 24
 (.dead [])
 (.nb [.setB0 25 (.cmp .eql (.lit 35) (.var 0))] 25
 (.dead [])
 (.nb [.setB0 26 (.cmp .eql (.lit 19) (.var 0))] 26
 (.dead [])
 (.nb [.setB0 27 (.cmp .eql (.lit 19) (.var 0))] 27
 (.dead [])
 (.nb [.setB0 28 (.cmp .eql (.lit 19) (.var 0))] 28
 (.dead [])
 (.nb [.setB0 29 (.cmp .eql (.lit 19) (.var 0))] 29
 (.dead [])
 (.nb [.setB0 30 (.cmp .eql (.lit 19) (.var 0))] 30
 (.dead [])
 (.nb [.setB0 31 (.cmp .eql (.lit 19) (.var 0))] 31
 (.dead [])
 (.nb [.setB0 32 (.cmp .eql (.lit 19) (.var 0))] 32
 (.dead [])
 (.nb [.setB0 33 (.cmp .eql (.lit 19) (.var 0))] 33
 (.dead [])
 (.nb [.setB0 34 (.cmp .eql (.lit 19) (.var 0))] 34
 (.dead [])
 (.nb [.setB0 35 (.cmp .eql (.lit 51) (.var 0))] 35
 (.dead [])
 (.nb [.setB0 36 (.cmp .eql (.lit 51) (.var 0))] 36
 (.dead [])
 (.nb [.setB0 37 (.cmp .eql (.lit 51) (.var 0))] 37
 (.dead [])
 (.nb [.setB0 38 (.cmp .eql (.lit 51) (.var 0))] 38
 (.dead [])
 (.nb [.setB0 39 (.cmp .eql (.lit 51) (.var 0))] 39
 (.dead [])
 (.nb [.setB0 40 (.cmp .eql (.lit 51) (.var 0))] 40
 (.dead [])
 (.nb [.setB0 41 (.cmp .eql (.lit 51) (.var 0))] 41
 (.dead [])
 (.nb [.setB0 42 (.cmp .eql (.lit 51) (.var 0))] 42
 (.dead [])
 (.nb [.setB0 43 (.cmp .eql (.lit 51) (.var 0))] 43
 (.dead [])
 (.nb [.setB0 44 (.cmp .eql (.lit 51) (.var 0))] 44
 (.dead [])
 (.nb [.setB0 45 (.cmp .eql (.lit 51) (.var 0))] 45
 (.dead [])
 (.nb [.setB0 46 (.cmp .eql (.lit 51) (.var 0))] 46
 (.dead [])
 (.nb [.setB0 47 (.cmp .eql (.lit 51) (.var 0))] 47
 (.dead [])
 (.nb [.setB0 48 (.cmp .eql (.lit 51) (.var 0))] 48
 (.dead [])
 (.nb [.setB0 49 (.cmp .eql (.lit 51) (.var 0))] 49
 (.dead [])
 (.nb [.setB0 50 (.cmp .eql (.lit 51) (.var 0))] 50
 (.dead [])
 (.nb [.setB0 51 (.cmp .eql (.lit 51) (.var 0))] 51
 (.dead [])
 (.nb [.setB0 52 (.cmp .eql (.lit 51) (.var 0))] 52
 (.dead [])
 (.nb [.setB0 53 (.all [(.ii (.var 0) (.lit 3)), (.ii (.var 1) (.lit 0)), (.ii (.var 2) (.lit 0))])] 53
 (.leaf [] (.w (.c (.lit (.int .i64 11)))))
 (.leaf [] (.w (.c (.lit (.int .i64 0)))))))))))))))))))))))))))))))))))))
 (.dead [])))
 (.dead [])))
 (.dead [])))
 (.dead []))
 (.nb [.setB0 15 (.cmp .eql (.lit 3) (.var 0))] 15
 (.nb [.setB0 16 (.cmp .eql (.lit 1) (.var 1))] 16
 (.nb [.setB0 17 (.cmp .eql (.lit 3) (.var 0))] 17
 (.nb [.setB0 18 (.cmp .eql (.lit 2) (.var 1))] 18
 (.dead [])
 (.nb [.setB0 19 (.cmp .eql (.lit 3) (.var 0))] 19
 (.nb [.setB0 20 (.cmp .eql (.lit 4) (.var 1))] 20
 (.dead [])
 (.nb [.setB0 21 (.cmp .eql (.lit 3) (.var 0))] 21
 (.nb [.setB0 22 (.cmp .eql (.lit 5) (.var 1))] 22
 (.dead [])
 (.nb [.setB0 23 (.cmp .eql (.lit 35) (.var 0))] 23
 (.dead [])
 (.nb [.setB0 24 (.cmp .eql (.lit 35) (.var 0))] 24
 (.dead [])
 (.nb [.setB0 25 (.cmp .eql (.lit 35) (.var 0))] 25
 (.dead [])
 (.nb [.setB0 26 (.cmp .eql (.lit 19) (.var 0))] 26
 (.dead [])
 (.nb [.setB0 27 (.cmp .eql (.lit 19) (.var 0))] 27
 (.dead [])
 (.nb [.setB0 28 (.cmp .eql (.lit 19) (.var 0))] 28
 (.dead [])
 (.nb [.setB0 29 (.cmp .eql (.lit 19) (.var 0))] 29
 (.dead [])
 (.nb [.setB0 30 (.cmp .eql (.lit 19) (.var 0))] 30
 (.dead [])
 (.nb [.setB0 31 (.cmp .eql (.lit 19) (.var 0))] 31
 (.dead [])
 (.nb [.setB0 32 (.cmp .eql (.lit 19) (.var 0))] 32
 (.dead [])
 (.nb [.setB0 33 (.cmp .eql (.lit 19) (.var 0))] 33
 (.dead [])
 (.nb [.setB0 34 (.cmp .eql (.lit 19) (.var 0))] 34
 (.dead [])
 (.nb [.setB0 35 (.cmp .eql (.lit 51) (.var 0))] 35
 (.dead [])
 (.nb [.setB0 36 (.cmp .eql (.lit 51) (.var 0))] 36
 (.dead [])
 (.nb [.setB0 37 (.cmp .eql (.lit 51) (.var 0))] 37
 (.dead [])
 (.nb [.setB0 38 (.cmp .eql (.lit 51) (.var 0))] 38
 (.dead [])
 (.nb [.setB0 39 (.cmp .eql (.lit 51) (.var 0))] 39
 (.dead [])
 (.nb [.setB0 40 (.cmp .eql (.lit 51) (.var 0))] 40
 (.dead [])
 (.nb [.setB0 41 (.cmp .eql (.lit 51) (.var 0))] 41
 (.dead [])
 (.nb [.setB0 42 (.cmp .eql (.lit 51) (.var 0))] 42
 (.dead [])
 (.nb [.setB0 43 (.cmp .eql (.lit 51) (.var 0))] 43
 (.dead [])
 (.nb [.setB0 44 (.cmp .eql (.lit 51) (.var 0))] 44
 (.dead [])
 (.nb [.setB0 45 (.cmp .eql (.lit 51) (.var 0))] 45
 (.dead [])
 (.nb [.setB0 46 (.cmp .eql (.lit 51) (.var 0))] 46
 (.dead [])
 (.nb [.setB0 47 (.cmp .eql (.lit 51) (.var 0))] 47
 (.dead [])
 (.nb [.setB0 48 (.cmp .eql (.lit 51) (.var 0))] 48
 (.dead [])
 (.nb [.setB0 49 (.cmp .eql (.lit 51) (.var 0))] 49
 (.dead [])
 (.nb [.setB0 50 (.cmp .eql (.lit 51) (.var 0))] 50
 (.dead [])
 (.nb [.setB0 51 (.cmp .eql (.lit 51) (.var 0))] 51
 (.dead [])
 (.nb [.setB0 52 (.cmp .eql (.lit 51) (.var 0))] 52
 (.dead [])
 (.nb [.setB0 53 (.all [(.ii (.var 0) (.lit 3)), (.ii (.var 1) (.lit 1)), (.ii (.var 2) (.lit 0))])] 53
 (.leaf [] (.w (.c (.lit (.int .i64 12)))))
 (.leaf [] (.w (.c (.lit (.int .i64 0)))))))))))))))))))))))))))))))))))))
 (.dead [])))
 (.dead [])))
 (.dead []))
 (.nb [.setB0 17 (.cmp .eql (.lit 3) (.var 0))] 17
 (.nb [.setB0 18 (.cmp .eql (.lit 2) (.var 1))] 18
 (.nb [.setB0 19 (.cmp .eql (.lit 3) (.var 0))] 19
 (.nb [.setB0 20 (.cmp .eql (.lit 4) (.var 1))] 20
 (.dead [])
 (.nb [.setB0 21 (.cmp .eql (.lit 3) (.var 0))] 21
 (.nb [.setB0 22 (.cmp .eql (.lit 5) (.var 1))] 22
 (.dead [])
 (.nb [.setB0 23 (.cmp .eql (.lit 35) (.var 0))] 23
 (.dead [])
 (.nb [.setB0 24 (.cmp .eql (.lit 35) (.var 0))] 24
 (.dead [])
 (.nb [.setB0 25 (.cmp .eql (.lit 35) (.var 0))] 25
 (.dead [])
 (.nb [.setB0 26 (.cmp .eql (.lit 19) (.var 0))] 26
 (.dead [])
 (.nb [.setB0 27 (.cmp .eql (.lit 19) (.var 0))] 27
 (.dead [])
 (.nb [.setB0 28 (.cmp .eql (.lit 19) (.var 0))] 28
 (.dead [])
 (.nb [.setB0 29 (.cmp .eql (.lit 19) (.var 0))] 29
 (.dead [])
 (.nb [.setB0 30 (.cmp .eql (.lit 19) (.var 0))] 30
 (.dead [])
 (.nb [.setB0 31 (.cmp .eql (.lit 19) (.var 0))] 31
 (.dead [])
 (.nb [.setB0 32 (.cmp .eql (.lit 19) (.var 0))] 32
 (.dead [])
 (.nb [.setB0 33 (.cmp .eql (.lit 19) (.var 0))] 33
 (.dead [])
 (.nb [.setB0 34 (.cmp .eql (.lit 19) (.var 0))] 34
 (.dead [])
 (.nb [.setB0 35 (.cmp .eql (.lit 51) (.var 0))] 35
 (.dead [])
 (.nb [.setB0 36 (.cmp .eql (.lit 51) (.var 0))] 36
 (.dead [])
 (.nb [.setB0 37 (.cmp .eql (.lit 51) (.var 0))] 37
 (.dead [])
 (.nb [.setB0 38 (.cmp .eql (.lit 51) (.var 0))] 38
 (.dead [])
 (.nb [.setB0 39 (.cmp .eql (.lit 51) (.var 0))] 39
 (.dead [])
 (.nb [.setB0 40 (.cmp .eql (.lit 51) (.var 0))] 40
 (.dead [])
 (.nb [.setB0 41 (.cmp .eql (.lit 51) (.var 0))] 41
 (.dead [])
 (.nb [.setB0 42 (.cmp .eql (.lit 51) (.var 0))] 42
 (.dead [])
 (.nb [.setB0 43 (.cmp .eql (.lit 51) (.var 0))] 43
 (.dead [])
 (.nb [.setB0 44 (.cmp .eql (.lit 51) (.var 0))] 44
 (.dead [])
 (.nb [.setB0 45 (.cmp .eql (.lit 51) (.var 0))] 45
 (.dead [])
 (.nb [.setB0 46 (.cmp .eql (.lit 51) (.var 0))] 46
 (.dead [])
 (.nb [.setB0 47 (.cmp .eql (.lit 51) (.var 0))] 47
 (.dead [])
 (.nb [.setB0 48 (.cmp .eql (.lit 51) (.var 0))] 48
 (.dead [])
 (.nb [.setB0 49 (.cmp .eql (.lit 51) (.var 0))] 49
 (.dead [])
 (.nb [.setB0 50 (.cmp .eql (.lit 51) (.var 0))] 50
 (.dead [])
 (.nb [.setB0 51 (.cmp .eql (.lit 51) (.var 0))] 51
 (.dead [])
 (.nb [.setB0 52 (.cmp .eql (.lit 51) (.var 0))] 52
 (.dead [])
 (.nb [.setB0 53 (.all [(.ii (.var 0) (.lit 3)), (.ii (.var 1) (.lit 2)), (.ii (.var 2) (.lit 0))])] 53
 (.leaf [] (.w (.c (.lit (.int .i64 13)))))
 (.leaf [] (.w (.c (.lit (.int .i64 0)))))))))))))))))))))))))))))))))))))
 (.dead [])))
 (.dead []))
 (.nb [.setB0 19 (.cmp .eql (.lit 3) (.var 0))] 19
 (.nb [.setB0 20 (.cmp .eql (.lit 4) (.var 1))] 20
 (.nb [.setB0 21 (.cmp .eql (.lit 3) (.var 0))] 21
 (.nb [.setB0 22 (.cmp .eql (.lit 5) (.var 1))] 22
 (.dead [])
 (.nb [.setB0 23 (.cmp .eql (.lit 35) (.var 0))] 23
 (.dead [])
 (.nb [.setB0 24 (.cmp .eql (.lit 35) (.var 0))] 24
 (.dead [])
 (.nb [.setB0 25 (.cmp .eql (.lit 35) (.var 0))] 25
 (.dead [])
 (.nb [.setB0 26 (.cmp .eql (.lit 19) (.var 0))] 26
 (.dead [])
 (.nb [.setB0 27 (.cmp .eql (.lit 19) (.var 0))] 27
 (.dead [])
 (.nb [.setB0 28 (.cmp .eql (.lit 19) (.var 0))] 28
 (.dead [])
 (.nb [.setB0 29 (.cmp .eql (.lit 19) (.var 0))] 29
 (.dead [])
 (.nb [.setB0 30 (.cmp .eql (.lit 19) (.var 0))] 30
 (.dead [])
 (.nb [.setB0 31 (.cmp .eql (.lit 19) (.var 0))] 31
 (.dead [])
 (.nb [.setB0 32 (.cmp .eql (.lit 19) (.var 0))] 32
 (.dead [])
 (.nb [.setB0 33 (.cmp .eql (.lit 19) (.var 0))] 33
 (.dead [])
 (.nb [.setB0 34 (.cmp .eql (.lit 19) (.var 0))] 34
 (.dead [])
 (.nb [.setB0 35 (.cmp .eql (.lit 51) (.var 0))] 35
 (.dead [])
 (.nb [.setB0 36 (.cmp .eql (.lit 51) (.var 0))] 36
 (.dead [])
 (.nb [.setB0 37 (.cmp .eql (.lit 51) (.var 0))] 37
 (.dead [])
 (.nb [.setB0 38 (.cmp .eql (.lit 51) (.var 0))] 38
 (.dead [])
 (.nb [.setB0 39 (.cmp .eql (.lit 51) (.var 0))] 39
 (.dead [])
 (.nb [.setB0 40 (.cmp .eql (.lit 51) (.var 0))] 40
 (.dead [])
 (.nb [.setB0 41 (.cmp .eql (.lit 51) (.var 0))] 41
 (.dead [])
 (.nb [.setB0 42 (.cmp .eql (.lit 51) (.var 0))] 42
 (.dead [])
 (.nb [.setB0 43 (.cmp .eql (.lit 51) (.var 0))] 43
 (.dead [])
 (.nb [.setB0 44 (.cmp .eql (.lit 51) (.var 0))] 44
 (.dead [])
 (.nb [.setB0 45 (.cmp .eql (.lit 51) (.var 0))] 45
 (.dead [])
 (.nb [.setB0 46 (.cmp .eql (.lit 51) (.var 0))] 46
 (.dead [])
 (.nb [.setB0 47 (.cmp .eql (.lit 51) (.var 0))] 47
 (.dead [])
 (.nb [.setB0 48 (.cmp .eql (.lit 51) (.var 0))] 48
 (.dead [])
 (.nb [.setB0 49 (.cmp .eql (.lit 51) (.var 0))] 49
 (.dead [])
 (.nb [.setB0 50 (.cmp .eql (.lit 51) (.var 0))] 50
 (.dead [])
 (.nb [.setB0 51 (.cmp .eql (.lit 51) (.var 0))] 51
 (.dead [])
 (.nb [.setB0 52 (.cmp .eql (.lit 51) (.var 0))] 52
 (.dead [])
 (.nb [.setB0 53 (.all [(.ii (.var 0) (.lit 3)), (.ii (.var 1) (.lit 4)), (.ii (.var 2) (.lit 0))])] 53
 (.leaf [] (.w (.c (.lit (.int .i64 14)))))
 (.leaf [] (.w (.c (.lit (.int .i64 0)))))))))))))))))))))))))))))))))))))
 (.dead []))
 (.nb [.setB0 21 (.cmp .eql (.lit 3) (.var 0))] 21
 (.nb [.setB0 22 (.cmp .eql (.lit 5) (.var 1))] 22
 (.nb [.setB0 23 (.cmp .eql (.lit 35) (.var 0))] 23
 (.dead [])
 (.nb [.setB0 24 (.cmp .eql (.lit 35) (.var 0))] 24
 (.dead [])
 (.nb [.setB0 25 (.cmp .eql (.lit 35) (.var 0))] 25
 (.dead [])
 (.nb [.setB0 26 (.cmp .eql (.lit 19) (.var 0))] 26
 (.dead [])
 (.nb [.setB0 27 (.cmp .eql (.lit 19) (.var 0))] 27
 (.dead [])
 (.nb [.setB0 28 (.cmp .eql (.lit 19) (.var 0))] 28
 (.dead [])
 (.nb [.setB0 29 (.cmp .eql (.lit 19) (.var 0))] 29
 (.dead [])
 (.nb [.setB0 30 (.cmp .eql (.lit 19) (.var 0))] 30
 (.dead [])
 (.nb [.setB0 31 (.cmp .eql (.lit 19) (.var 0))] 31
 (.dead [])
 (.nb [.setB0 32 (.cmp .eql (.lit 19) (.var 0))] 32
 (.dead [])
 (.nb [.setB0 33 (.cmp .eql (.lit 19) (.var 0))] 33
 (.dead [])
 (.nb [.setB0 34 (.cmp .eql (.lit 19) (.var 0))] 34
 (.dead [])
 (.nb [.setB0 35 (.cmp .eql (.lit 51) (.var 0))] 35
 (.dead [])
 (.nb [.setB0 36 (.cmp .eql (.lit 51) (.var 0))] 36
 (.dead [])
 (.nb [.setB0 37 (.cmp .eql (.lit 51) (.var 0))] 37
 (.dead [])
 (.nb [.setB0 38 (.cmp .eql (.lit 51) (.var 0))] 38
 (.dead [])
 (.nb [.setB0 39 (.cmp .eql (.lit 51) (.var 0))] 39
 (.dead [])
 (.nb [.setB0 40 (.cmp .eql (.lit 51) (.var 0))] 40
 (.dead [])
 (.nb [.setB0 41 (.cmp .eql (.lit 51) (.var 0))] 41
 (.dead [])
 (.nb [.setB0 42 (.cmp .eql (.lit 51) (.var 0))] 42
 (.dead [])
 (.nb [.setB0 43 (.cmp .eql (.lit 51) (.var 0))] 43
 (.dead [])
 (.nb [.setB0 44 (.cmp .eql (.lit 51) (.var 0))] 44
 (.dead [])
 (.nb [.setB0 45 (.cmp .eql (.lit 51) (.var 0))] 45
 (.dead [])
 (.nb [.setB0 46 (.cmp .eql (.lit 51) (.var 0))] 46
 (.dead [])
 (.nb [.setB0 47 (.cmp .eql (.lit 51) (.var 0))] 47
 (.dead [])
 (.nb [.setB0 48 (.cmp .eql (.lit 51) (.var 0))] 48
 (.dead [])
 (.nb [.setB0 49 (.cmp .eql (.lit 51) (.var 0))] 49
 (.dead [])
 (.nb [.setB0 50 (.cmp .eql (.lit 51) (.var 0))] 50
 (.dead [])
 (.nb [.setB0 51 (.cmp .eql (.lit 51) (.var 0))] 51
 (.dead [])
 (.nb [.setB0 52 (.cmp .eql (.lit 51) (.var 0))] 52
 (.dead [])
 (.nb [.setB0 53 (.all [(.ii (.var 0) (.lit 3)), (.ii (.var 1) (.lit 5)), (.ii (.var 2) (.lit 0))])] 53
 (.leaf [] (.w (.c (.lit (.int .i64 15)))))
 (.leaf [] (.w (.c (.lit (.int .i64 0))))))))))))))))))))))))))))))))))))
 (.nb [.setB0 23 (.cmp .eql (.lit 35) (.var 0))] 23
 (.dead [])
 (.nb [.setB0 24 (.cmp .eql (.lit 35) (.var 0))] 24
 (.dead [])
 (.nb [.setB0 25 (.cmp .eql (.lit 35) (.var 0))] 25
 (.dead [])
 (.nb [.setB0 26 (.cmp .eql (.lit 19) (.var 0))] 26
 (.dead [])
 (.nb [.setB0 27 (.cmp .eql (.lit 19) (.var 0))] 27
 (.dead [])
 (.nb [.setB0 28 (.cmp .eql (.lit 19) (.var 0))] 28
 (.dead [])
 (.nb [.setB0 29 (.cmp .eql (.lit 19) (.var 0))] 29
 (.dead [])
 (.nb [.setB0 30 (.cmp .eql (.lit 19) (.var 0))] 30
 (.dead [])
 (.nb [.setB0 31 (.cmp .eql (.lit 19) (.var 0))] 31
 (.dead [])
 (.nb [.setB0 32 (.cmp .eql (.lit 19) (.var 0))] 32
 (.dead [])
 (.nb [.setB0 33 (.cmp .eql (.lit 19) (.var 0))] 33
 (.dead [])
 (.nb [.setB0 34 (.cmp .eql (.lit 19) (.var 0))] 34
 (.dead [])
 (.nb [.setB0 35 (.cmp .eql (.lit 51) (.var 0))] 35
 (.dead [])
 (.nb [.setB0 36 (.cmp .eql (.lit 51) (.var 0))] 36
 (.dead [])
 (.nb [.setB0 37 (.cmp .eql (.lit 51) (.var 0))] 37
 (.dead [])
 (.nb [.setB0 38 (.cmp .eql (.lit 51) (.var 0))] 38
 (.dead [])
 (.nb [.setB0 39 (.cmp .eql (.lit 51) (.var 0))] 39
 (.dead [])
 (.nb [.setB0 40 (.cmp .eql (.lit 51) (.var 0))] 40
 (.dead [])
 (.nb [.setB0 41 (.cmp .eql (.lit 51) (.var 0))] 41
 (.dead [])
 (.nb [.setB0 42 (.cmp .eql (.lit 51) (.var 0))] 42
 (.dead [])
 (.nb [.setB0 43 (.cmp .eql (.lit 51) (.var 0))] 43
 (.dead [])
 (.nb [.setB0 44 (.cmp .eql (.lit 51) (.var 0))] 44
 (.dead [])
 (.nb [.setB0 45 (.cmp .eql (.lit 51) (.var 0))] 45
 (.dead [])
 (.nb [.setB0 46 (.cmp .eql (.lit 51) (.var 0))] 46
 (.dead [])
 (.nb [.setB0 47 (.cmp .eql (.lit 51) (.var 0))] 47
 (.dead [])
 (.nb [.setB0 48 (.cmp .eql (.lit 51) (.var 0))] 48
 (.dead [])
 (.nb [.setB0 49 (.cmp .eql (.lit 51) (.var 0))] 49
 (.dead [])
 (.nb [.setB0 50 (.cmp .eql (.lit 51) (.var 0))] 50
 (.dead [])
 (.nb [.setB0 51 (.cmp .eql (.lit 51) (.var 0))] 51
 (.dead [])
 (.nb [.setB0 52 (.cmp .eql (.lit 51) (.var 0))] 52
 (.dead [])
 (.leaf [] (.w (.c (.lit (.int .i64 0))))))))))))))))))))))))))))))))))))
 (.dead [])))
 (.dead [])))
 (.dead [])))
 (.dead [])))
 (.nb [.setB0 14 (.cmp .eql (.lit 3) (.var 0))] 14
 (.dead [])
 (.nb [.setB0 15 (.cmp .eql (.lit 3) (.var 0))] 15
 (.dead [])
 (.nb [.setB0 16 (.cmp .eql (.lit 3) (.var 0))] 16
 (.dead [])
 (.nb [.setB0 17 (.cmp .eql (.lit 3) (.var 0))] 17
 (.dead [])
 rvFindT2)))))))))))
theorem rvFindT3_ok : LT.Ok rvFindR rvFindT3 [.db false, .db false, .db false, .db false] [.decB 6 false, .setB0 6 (.cmp .eql (.lit 103) (.var 0)), .decB 5 false, .setB0 5 (.cmp .eql (.lit 111) (.var 0)), .decB 4 false, .setB0 4 (.cmp .eql (.lit 23) (.var 0)), .decB 3 false, .setB0 3 (.cmp .eql (.lit 55) (.var 0))] :=
 (LT.ok_nb (LT.ok_nb (LT.ok_nb (LT.ok_nb LT.ok_dead
 (LT.ok_nb (LT.ok_nb LT.ok_dead
 (LT.ok_nb (LT.ok_nb LT.ok_dead
 (LT.ok_nb (LT.ok_nb LT.ok_dead
 (LT.ok_nb (LT.ok_nb LT.ok_dead
 (LT.ok_nb LT.ok_dead
 (LT.ok_nb LT.ok_dead
 (LT.ok_nb LT.ok_dead
 (LT.ok_nb LT.ok_dead
 (LT.ok_nb LT.ok_dead
 (LT.ok_nb LT.ok_dead
 (LT.ok_nb LT.ok_dead
 (LT.ok_nb LT.ok_dead
 (LT.ok_nb LT.ok_dead
 (LT.ok_nb LT.ok_dead
 (LT.ok_nb LT.ok_dead
 (LT.ok_nb LT.ok_dead
 (LT.ok_nb LT.ok_dead
 (LT.ok_nb LT.ok_dead
 (LT.ok_nb LT.ok_dead
 (LT.ok_nb LT.ok_dead
 (LT.ok_nb LT.ok_dead
 (LT.ok_nb LT.ok_dead
 (LT.ok_nb LT.ok_dead
 (LT.ok_nb LT.ok_dead
 (LT.ok_nb LT.ok_dead
 (LT.ok_nb LT.ok_dead
 (LT.ok_nb LT.ok_dead
 (LT.ok_nb LT.ok_dead
 (LT.ok_nb LT.ok_dead
 (LT.ok_nb LT.ok_dead
 (LT.ok_nb LT.ok_dead
 (LT.ok_nb LT.ok_dead
 (LT.ok_nb LT.ok_dead
 (LT.ok_nb LT.ok_dead
 (LT.ok_nb LT.ok_dead
 (LT.ok_nb LT.ok_dead
 (LT.ok_nb LT.ok_dead
 (LT.ok_nb LT.ok_dead
 (LT.ok_nb LT.ok_dead
 (LT.ok_nb (LT.ok_leaf (by kernel_rfl))
 (LT.ok_leaf (by kernel_rfl)))))))))))))))))))))))))))))))))))))))
 LT.ok_dead))
 LT.ok_dead))
 LT.ok_dead))
 LT.ok_dead))
 LT.ok_dead)
 (LT.ok_nb (LT.ok_nb (LT.ok_nb (LT.ok_nb LT.ok_dead
 (LT.ok_nb (LT.ok_nb LT.ok_dead
 (LT.ok_nb (LT.ok_nb LT.ok_dead
 (LT.ok_nb (LT.ok_nb LT.ok_dead
 (LT.ok_nb LT.ok_dead
 (LT.ok_nb LT.ok_dead
 (LT.ok_nb LT.ok_dead
 (LT.ok_nb LT.ok_dead
 (LT.ok_nb LT.ok_dead
 (LT.ok_nb LT.ok_dead
 (LT.ok_nb LT.ok_dead
 (LT.ok_nb LT.ok_dead
 (LT.ok_nb LT.ok_dead
 (LT.ok_nb LT.ok_dead
 (LT.ok_nb LT.ok_dead
 (LT.ok_nb LT.ok_dead
 (LT.ok_nb LT.ok_dead
 (LT.ok_nb LT.ok_dead
 (LT.ok_nb LT.ok_dead
 (LT.ok_nb LT.ok_dead
 (LT.ok_nb LT.ok_dead
 (LT.ok_nb LT.ok_dead
 (LT.ok_nb LT.ok_dead
 (LT.ok_nb LT.ok_dead
 (LT.ok_nb LT.ok_dead
 (LT.ok_nb LT.ok_dead
 (LT.ok_nb LT.ok_dead
 (LT.ok_nb LT.ok_dead
 (LT.ok_nb LT.ok_dead
 (LT.ok_nb LT.ok_dead
 (LT.ok_nb LT.ok_dead
 (LT.ok_nb LT.ok_dead
 (LT.ok_nb LT.ok_dead
 (LT.ok_nb LT.ok_dead
 (LT.ok_nb LT.ok_dead
 (LT.ok_nb LT.ok_dead
 (LT.ok_nb LT.ok_dead
 (LT.ok_nb LT.ok_dead
 (LT.ok_nb LT.ok_dead
 (LT.ok_nb (LT.ok_leaf (by kernel_rfl))
 (LT.ok_leaf (by kernel_rfl)))))))))))))))))))))))))))))))))))))))
 LT.ok_dead))
 LT.ok_dead))
 LT.ok_dead))
 LT.ok_dead)
 (LT.ok_nb (LT.ok_nb (LT.ok_nb (LT.ok_nb LT.ok_dead
 (LT.ok_nb (LT.ok_nb LT.ok_dead
 (LT.ok_nb (LT.ok_nb LT.ok_dead
 (LT.ok_nb LT.ok_dead
 (LT.ok_nb LT.ok_dead
 (LT.ok_nb LT.ok_dead
 (LT.ok_nb LT.ok_dead
 (LT.ok_nb LT.ok_dead
 (LT.ok_nb LT.ok_dead
 (LT.ok_nb LT.ok_dead
 (LT.ok_nb LT.ok_dead
 (LT.ok_nb LT.ok_dead
 (LT.ok_nb LT.ok_dead
 (LT.ok_nb LT.ok_dead
 (LT.ok_nb LT.ok_dead
 (LT.ok_nb LT.ok_dead
 (LT.ok_nb LT.ok_dead
 (LT.ok_nb LT.ok_dead
 (LT.ok_nb LT.ok_dead
 (LT.ok_nb LT.ok_dead
 (LT.ok_nb LT.ok_dead
 (LT.ok_nb LT.ok_dead
 (LT.ok_nb LT.ok_dead
 (LT.ok_nb LT.ok_dead
 (LT.ok_nb LT.ok_dead
 (LT.ok_nb LT.ok_dead
 (LT.ok_nb LT.ok_dead
 (LT.ok_nb LT.ok_dead
 (LT.ok_nb LT.ok_dead
 (LT.ok_nb LT.ok_dead
 (LT.ok_nb LT.ok_dead
 (LT.ok_nb LT.ok_dead
 (LT.ok_nb LT.ok_dead
 (LT.ok_nb LT.ok_dead
 (LT.ok_nb LT.ok_dead
 (LT.ok_nb LT.ok_dead
 (LT.ok_nb LT.ok_dead
 (LT.ok_nb LT.ok_dead
 (LT.ok_nb (LT.ok_leaf (by kernel_rfl))
 (LT.ok_leaf (by kernel_rfl)))))))))))))))))))))))))))))))))))))))
 LT.ok_dead))
 LT.ok_dead))
 LT.ok_dead)
 (LT.ok_nb (LT.ok_nb (LT.ok_nb (LT.ok_nb LT.ok_dead
 (LT.ok_nb (LT.ok_nb LT.ok_dead
 (LT.ok_nb LT.ok_dead
 (LT.ok_nb LT.ok_dead
 (LT.ok_nb LT.ok_dead
 (LT.ok_nb LT.ok_dead
 (LT.ok_nb LT.ok_dead
 (LT.ok_nb LT.ok_dead
 (LT.ok_nb LT.ok_dead
 (LT.ok_nb LT.ok_dead
 (LT.ok_nb LT.ok_dead
 (LT.ok_nb LT.ok_dead
 (LT.ok_nb LT.ok_dead
 (LT.ok_nb LT.ok_dead
 (LT.ok_nb LT.ok_dead
 (LT.ok_nb LT.ok_dead
 (LT.ok_nb LT.ok_dead
 (LT.ok_nb LT.ok_dead
 (LT.ok_nb LT.ok_dead
 (LT.ok_nb LT.ok_dead
 (LT.ok_nb LT.ok_dead
 (LT.ok_nb LT.ok_dead
 (LT.ok_nb LT.ok_dead
 (LT.ok_nb LT.ok_dead
 (LT.ok_nb LT.ok_dead
 (LT.ok_nb LT.ok_dead
 (LT.ok_nb LT.ok_dead
 (LT.ok_nb LT.ok_dead
 (LT.ok_nb LT.ok_dead
 (LT.ok_nb LT.ok_dead
 (LT.ok_nb LT.ok_dead
 (LT.ok_nb LT.ok_dead
 (LT.ok_nb LT.ok_dead
 (LT.ok_nb LT.ok_dead
 (LT.ok_nb LT.ok_dead
 (LT.ok_nb LT.ok_dead
 (LT.ok_nb LT.ok_dead
 (LT.ok_nb (LT.ok_leaf (by kernel_rfl))
 (LT.ok_leaf (by kernel_rfl)))))))))))))))))))))))))))))))))))))))
 LT.ok_dead))
 LT.ok_dead)
 (LT.ok_nb (LT.ok_nb (LT.ok_nb (LT.ok_nb LT.ok_dead
 (LT.ok_nb LT.ok_dead
 (LT.ok_nb LT.ok_dead
 (LT.ok_nb LT.ok_dead
 (LT.ok_nb LT.ok_dead
 (LT.ok_nb LT.ok_dead
 (LT.ok_nb LT.ok_dead
 (LT.ok_nb LT.ok_dead
 (LT.ok_nb LT.ok_dead
 (LT.ok_nb LT.ok_dead
 (LT.ok_nb LT.ok_dead
 (LT.ok_nb LT.ok_dead
 (LT.ok_nb LT.ok_dead
 (LT.ok_nb LT.ok_dead
 (LT.ok_nb LT.ok_dead
 (LT.ok_nb LT.ok_dead
 (LT.ok_nb LT.ok_dead
 (LT.ok_nb LT.ok_dead
 (LT.ok_nb LT.ok_dead
 (LT.ok_nb LT.ok_dead
 (LT.ok_nb LT.ok_dead
 (LT.ok_nb LT.ok_dead
 (LT.ok_nb LT.ok_dead
 (LT.ok_nb LT.ok_dead
 (LT.ok_nb LT.ok_dead
 (LT.ok_nb LT.ok_dead
 (LT.ok_nb LT.ok_dead
 (LT.ok_nb LT.ok_dead
 (LT.ok_nb LT.ok_dead
 (LT.ok_nb LT.ok_dead
 (LT.ok_nb LT.ok_dead
 (LT.ok_nb LT.ok_dead
 (LT.ok_nb LT.ok_dead
 (LT.ok_nb LT.ok_dead
 (LT.ok_nb LT.ok_dead
 (LT.ok_nb LT.ok_dead
 (LT.ok_nb (LT.ok_leaf (by kernel_rfl))
 (LT.ok_leaf (by kernel_rfl)))))))))))))))))))))))))))))))))))))))
 LT.ok_dead)
 (LT.ok_nb (LT.ok_nb (LT.ok_nb LT.ok_dead
 (LT.ok_nb LT.ok_dead
 (LT.ok_nb LT.ok_dead
 (LT.ok_nb LT.ok_dead
 (LT.ok_nb LT.ok_dead
 (LT.ok_nb LT.ok_dead
 (LT.ok_nb LT.ok_dead
 (LT.ok_nb LT.ok_dead
 (LT.ok_nb LT.ok_dead
 (LT.ok_nb LT.ok_dead
 (LT.ok_nb LT.ok_dead
 (LT.ok_nb LT.ok_dead
 (LT.ok_nb LT.ok_dead
 (LT.ok_nb LT.ok_dead
 (LT.ok_nb LT.ok_dead
 (LT.ok_nb LT.ok_dead
 (LT.ok_nb LT.ok_dead
 (LT.ok_nb LT.ok_dead
 (LT.ok_nb LT.ok_dead
 (LT.ok_nb LT.ok_dead
 (LT.ok_nb LT.ok_dead
 (LT.ok_nb LT.ok_dead
 (LT.ok_nb LT.ok_dead
 (LT.ok_nb LT.ok_dead
 (LT.ok_nb LT.ok_dead
 (LT.ok_nb LT.ok_dead
 (LT.ok_nb LT.ok_dead
 (LT.ok_nb LT.ok_dead
 (LT.ok_nb LT.ok_dead
 (LT.ok_nb LT.ok_dead
 (LT.ok_nb LT.ok_dead
 (LT.ok_nb LT.ok_dead
 (LT.ok_nb LT.ok_dead
 (LT.ok_nb LT.ok_dead
 (LT.ok_nb LT.ok_dead
 (LT.ok_nb (LT.ok_leaf (by kernel_rfl))
 (LT.ok_leaf (by kernel_rfl))))))))))))))))))))))))))))))))))))))
 (LT.ok_nb LT.ok_dead
 (LT.ok_nb LT.ok_dead
 (LT.ok_nb LT.ok_dead
 (LT.ok_nb LT.ok_dead
 (LT.ok_nb LT.ok_dead
 (LT.ok_nb LT.ok_dead
 (LT.ok_nb LT.ok_dead
 (LT.ok_nb LT.ok_dead
 (LT.ok_nb LT.ok_dead
 (LT.ok_nb LT.ok_dead
 (LT.ok_nb LT.ok_dead
 (LT.ok_nb LT.ok_dead
 (LT.ok_nb LT.ok_dead
 (LT.ok_nb LT.ok_dead
 (LT.ok_nb LT.ok_dead
 (LT.ok_nb LT.ok_dead
 (LT.ok_nb LT.ok_dead
 (LT.ok_nb LT.ok_dead
 (LT.ok_nb LT.ok_dead
 (LT.ok_nb LT.ok_dead
 (LT.ok_nb LT.ok_dead
 (LT.ok_nb LT.ok_dead
 (LT.ok_nb LT.ok_dead
 (LT.ok_nb LT.ok_dead
 (LT.ok_nb LT.ok_dead
 (LT.ok_nb LT.ok_dead
 (LT.ok_nb LT.ok_dead
 (LT.ok_nb LT.ok_dead
 (LT.ok_nb LT.ok_dead
 (LT.ok_nb LT.ok_dead
 (LT.ok_nb LT.ok_dead
 (LT.ok_nb LT.ok_dead
 (LT.ok_nb LT.ok_dead
 (LT.ok_nb LT.ok_dead
 (LT.ok_nb LT.ok_dead
 (LT.ok_leaf (by kernel_rfl))))))))))))))))))))))))))))))))))))))
 LT.ok_dead))
 LT.ok_dead))
 LT.ok_dead))
 LT.ok_dead))
 LT.ok_dead))
 (LT.ok_nb LT.ok_dead
 (LT.ok_nb LT.ok_dead
 (LT.ok_nb LT.ok_dead
 (LT.ok_nb LT.ok_dead
 (LT.ok_nb LT.ok_dead
 (LT.ok_nb (LT.ok_nb (LT.ok_nb (LT.ok_nb LT.ok_dead
 (LT.ok_nb (LT.ok_nb LT.ok_dead
 (LT.ok_nb (LT.ok_nb LT.ok_dead
 (LT.ok_nb (LT.ok_nb LT.ok_dead
 (LT.ok_nb LT.ok_dead
 (LT.ok_nb LT.ok_dead
 (LT.ok_nb LT.ok_dead
 (LT.ok_nb LT.ok_dead
 (LT.ok_nb LT.ok_dead
 (LT.ok_nb LT.ok_dead
 (LT.ok_nb LT.ok_dead
 (LT.ok_nb LT.ok_dead
 (LT.ok_nb LT.ok_dead
 (LT.ok_nb LT.ok_dead
 (LT.ok_nb LT.ok_dead
 (LT.ok_nb LT.ok_dead
 (LT.ok_nb LT.ok_dead
 (LT.ok_nb LT.ok_dead
 (LT.ok_nb LT.ok_dead
 (LT.ok_nb LT.ok_dead
 (LT.ok_nb LT.ok_dead
 (LT.ok_nb LT.ok_dead
 (LT.ok_nb LT.ok_dead
 (LT.ok_nb LT.ok_dead
 (LT.ok_nb LT.ok_dead
 (LT.ok_nb LT.ok_dead
 (LT.ok_nb LT.ok_dead
 (LT.ok_nb LT.ok_dead
 (LT.ok_nb LT.ok_dead
 (LT.ok_nb LT.ok_dead
 (LT.ok_nb LT.ok_dead
 (LT.ok_nb LT.ok_dead
 (LT.ok_nb LT.ok_dead
 (LT.ok_nb LT.ok_dead
 (LT.ok_nb (LT.ok_leaf (by kernel_rfl))
 (LT.ok_leaf (by kernel_rfl))))))))))))))))))))))))))))))))))
 LT.ok_dead))
 LT.ok_dead))
 LT.ok_dead))
 LT.ok_dead)
 (LT.ok_nb (LT.ok_nb (LT.ok_nb (LT.ok_nb LT.ok_dead
 (LT.ok_nb (LT.ok_nb LT.ok_dead
 (LT.ok_nb (LT.ok_nb LT.ok_dead
 (LT.ok_nb LT.ok_dead
 (LT.ok_nb LT.ok_dead
 (LT.ok_nb LT.ok_dead
 (LT.ok_nb LT.ok_dead
 (LT.ok_nb LT.ok_dead
 (LT.ok_nb LT.ok_dead
 (LT.ok_nb LT.ok_dead
 (LT.ok_nb LT.ok_dead
 (LT.ok_nb LT.ok_dead
 (LT.ok_nb LT.ok_dead
 (LT.ok_nb LT.ok_dead
 (LT.ok_nb LT.ok_dead
 (LT.ok_nb LT.ok_dead
 (LT.ok_nb LT.ok_dead
 (LT.ok_nb LT.ok_dead
 (LT.ok_nb LT.ok_dead
 (LT.ok_nb LT.ok_dead
 (LT.ok_nb LT.ok_dead
 (LT.ok_nb LT.ok_dead
 (LT.ok_nb LT.ok_dead
 (LT.ok_nb LT.ok_dead
 (LT.ok_nb LT.ok_dead
 (LT.ok_nb LT.ok_dead
 (LT.ok_nb LT.ok_dead
 (LT.ok_nb LT.ok_dead
 (LT.ok_nb LT.ok_dead
 (LT.ok_nb LT.ok_dead
 (LT.ok_nb LT.ok_dead
 (LT.ok_nb LT.ok_dead
 (LT.ok_nb LT.ok_dead
 (LT.ok_nb (LT.ok_leaf (by kernel_rfl))
 (LT.ok_leaf (by kernel_rfl))))))))))))))))))))))))))))))))))
 LT.ok_dead))
 LT.ok_dead))
 LT.ok_dead)
 (LT.ok_nb (LT.ok_nb (LT.ok_nb (LT.ok_nb LT.ok_dead
 (LT.ok_nb (LT.ok_nb LT.ok_dead
 (LT.ok_nb LT.ok_dead
 (LT.ok_nb LT.ok_dead
 (LT.ok_nb LT.ok_dead
 (LT.ok_nb LT.ok_dead
 (LT.ok_nb LT.ok_dead
 (LT.ok_nb LT.ok_dead
 (LT.ok_nb LT.ok_dead
 (LT.ok_nb LT.ok_dead
 (LT.ok_nb LT.ok_dead
 (LT.ok_nb LT.ok_dead
 (LT.ok_nb LT.ok_dead
 (LT.ok_nb LT.ok_dead
 (LT.ok_nb LT.ok_dead
 (LT.ok_nb LT.ok_dead
 (LT.ok_nb LT.ok_dead
 (LT.ok_nb LT.ok_dead
 (LT.ok_nb LT.ok_dead
 (LT.ok_nb LT.ok_dead
 (LT.ok_nb LT.ok_dead
 (LT.ok_nb LT.ok_dead
 (LT.ok_nb LT.ok_dead
 (LT.ok_nb LT.ok_dead
 (LT.ok_nb LT.ok_dead
 (LT.ok_nb LT.ok_dead
 (LT.ok_nb LT.ok_dead
 (LT.ok_nb LT.ok_dead
 (LT.ok_nb LT.ok_dead
 (LT.ok_nb LT.ok_dead
 (LT.ok_nb LT.ok_dead
 (LT.ok_nb LT.ok_dead
 (LT.ok_nb (LT.ok_leaf (by kernel_rfl))
 (LT.ok_leaf (by kernel_rfl))))))))))))))))))))))))))))))))))
 LT.ok_dead))
 LT.ok_dead)
 (LT.ok_nb (LT.ok_nb (LT.ok_nb (LT.ok_nb LT.ok_dead
 (LT.ok_nb LT.ok_dead
 (LT.ok_nb LT.ok_dead
 (LT.ok_nb LT.ok_dead
 (LT.ok_nb LT.ok_dead
 (LT.ok_nb LT.ok_dead
 (LT.ok_nb LT.ok_dead
 (LT.ok_nb LT.ok_dead
 (LT.ok_nb LT.ok_dead
 (LT.ok_nb LT.ok_dead
 (LT.ok_nb LT.ok_dead
 (LT.ok_nb LT.ok_dead
 (LT.ok_nb LT.ok_dead
 (LT.ok_nb LT.ok_dead
 (LT.ok_nb LT.ok_dead
 (LT.ok_nb LT.ok_dead
 (LT.ok_nb LT.ok_dead
 (LT.ok_nb LT.ok_dead
 (LT.ok_nb LT.ok_dead
 (LT.ok_nb LT.ok_dead
 (LT.ok_nb LT.ok_dead
 (LT.ok_nb LT.ok_dead
 (LT.ok_nb LT.ok_dead
 (LT.ok_nb LT.ok_dead
 (LT.ok_nb LT.ok_dead
 (LT.ok_nb LT.ok_dead
 (LT.ok_nb LT.ok_dead
 (LT.ok_nb LT.ok_dead
 (LT.ok_nb LT.ok_dead
 (LT.ok_nb LT.ok_dead
 (LT.ok_nb LT.ok_dead
 (LT.ok_nb (LT.ok_leaf (by kernel_rfl))
 (LT.ok_leaf (by kernel_rfl))))))))))))))))))))))))))))))))))
 LT.ok_dead)
 (LT.ok_nb (LT.ok_nb (LT.ok_nb LT.ok_dead
 (LT.ok_nb LT.ok_dead
 (LT.ok_nb LT.ok_dead
 (LT.ok_nb LT.ok_dead
 (LT.ok_nb LT.ok_dead
 (LT.ok_nb LT.ok_dead
 (LT.ok_nb LT.ok_dead
 (LT.ok_nb LT.ok_dead
 (LT.ok_nb LT.ok_dead
 (LT.ok_nb LT.ok_dead
 (LT.ok_nb LT.ok_dead
 (LT.ok_nb LT.ok_dead
 (LT.ok_nb LT.ok_dead
 (LT.ok_nb LT.ok_dead
 (LT.ok_nb LT.ok_dead
 (LT.ok_nb LT.ok_dead
 (LT.ok_nb LT.ok_dead
 (LT.ok_nb LT.ok_dead
 (LT.ok_nb LT.ok_dead
 (LT.ok_nb LT.ok_dead
 (LT.ok_nb LT.ok_dead
 (LT.ok_nb LT.ok_dead
 (LT.ok_nb LT.ok_dead
 (LT.ok_nb LT.ok_dead
 (LT.ok_nb LT.ok_dead
 (LT.ok_nb LT.ok_dead
 (LT.ok_nb LT.ok_dead
 (LT.ok_nb LT.ok_dead
 (LT.ok_nb LT.ok_dead
 (LT.ok_nb LT.ok_dead
 (LT.ok_nb (LT.ok_leaf (by kernel_rfl))
 (LT.ok_leaf (by kernel_rfl)))))))))))))))))))))))))))))))))
 (LT.ok_nb LT.ok_dead
 (LT.ok_nb LT.ok_dead
 (LT.ok_nb LT.ok_dead
 (LT.ok_nb LT.ok_dead
 (LT.ok_nb LT.ok_dead
 (LT.ok_nb LT.ok_dead
 (LT.ok_nb LT.ok_dead
 (LT.ok_nb LT.ok_dead
 (LT.ok_nb LT.ok_dead
 (LT.ok_nb LT.ok_dead
 (LT.ok_nb LT.ok_dead
 (LT.ok_nb LT.ok_dead
 (LT.ok_nb LT.ok_dead
 (LT.ok_nb LT.ok_dead
 (LT.ok_nb LT.ok_dead
 (LT.ok_nb LT.ok_dead
 (LT.ok_nb LT.ok_dead
 (LT.ok_nb LT.ok_dead
 (LT.ok_nb LT.ok_dead
 (LT.ok_nb LT.ok_dead
 (LT.ok_nb LT.ok_dead
 (LT.ok_nb LT.ok_dead
 (LT.ok_nb LT.ok_dead
 (LT.ok_nb LT.ok_dead
 (LT.ok_nb LT.ok_dead
 (LT.ok_nb LT.ok_dead
 (LT.ok_nb LT.ok_dead
 (LT.ok_nb LT.ok_dead
 (LT.ok_nb LT.ok_dead
 (LT.ok_nb LT.ok_dead
 (LT.ok_leaf (by kernel_rfl)))))))))))))))))))))))))))))))))
 LT.ok_dead))
 LT.ok_dead))
 LT.ok_dead))
 LT.ok_dead))
 (LT.ok_nb LT.ok_dead
 (LT.ok_nb LT.ok_dead
 (LT.ok_nb LT.ok_dead
 (LT.ok_nb LT.ok_dead
 rvFindT2_ok)))))))))))
noncomputable def rvFindT : LT :=
 (.nb [.setB0 3 (.cmp .eql (.lit 55) (.var 0))] 3
 (.nb [.setB0 4 (.cmp .eql (.lit 0) (.var 1))] 4
 (.nb [.setB0 5 (.cmp .eql (.lit 23) (.var 0))] 5
 (.dead [])
 (.nb [.setB0 6 (.cmp .eql (.lit 111) (.var 0))] 6
 (.dead [])
 (.nb [.setB0 7 (.cmp .eql (.lit 103) (.var 0))] 7
 (.dead [])
 (.nb [.setB0 8 (.cmp .eql (.lit 99) (.var 0))] 8
 (.dead [])
 (.nb [.setB0 9 (.cmp .eql (.lit 99) (.var 0))] 9
 (.dead [])
 (.nb [.setB0 10 (.cmp .eql (.lit 99) (.var 0))] 10
 (.dead [])
 (.nb [.setB0 11 (.cmp .eql (.lit 99) (.var 0))] 11
 (.dead [])
 (.nb [.setB0 12 (.cmp .eql (.lit 99) (.var 0))] 12
 (.dead [])
 (.nb [.setB0 13 (.cmp .eql (.lit 99) (.var 0))] 13
 (.dead [])
 (.nb [.setB0 14 (.cmp .eql (.lit 3) (.var 0))] 14
 (.dead [])
 (.nb [.setB0 15 (.cmp .eql (.lit 3) (.var 0))] 15
 (.dead [])
 (.nb [.setB0 16 (.cmp .eql (.lit 3) (.var 0))] 16
 (.dead [])
 (.nb [.setB0 17 (.cmp .eql (.lit 3) (.var 0))] 17
 (.dead [])
 (.nb [.setB0 18 (.cmp .eql (.lit 3) (.var 0))] 18
 (.dead [])
 (.nb [.setB0 19 (.cmp .eql (.lit 35) (.var 0))] 19
 (.dead [])
 (.nb [.setB0 20 (.cmp .eql (.lit 35) (.var 0))] 20
 (.dead [])
 (.nb [.setB0 21 (.cmp .eql (.lit 35) (.var 0))] 21
 (.dead [])
 (.nb [.setB0 22 (.cmp .eql (.lit 19) (.var 0))] 22
 (.dead [])
 (.nb [.setB0 23 (.cmp .eql (.lit 19) (.var 0))] 23
 (.dead [])
 (.nb [.setB0 24 (.cmp .eql (.lit 19) (.var 0))] 24
 (.dead [])
 (.nb [.setB0 25 (.cmp .eql (.lit 19) (.var 0))] 25
 (.dead [])
 (.nb [.setB0 26 (.cmp .eql (.lit 19) (.var 0))] 26
 (.dead [])
 (.nb [.setB0 27 (.cmp .eql (.lit 19) (.var 0))] 27
 (.dead [])
 (.nb [.setB0 28 (.cmp .eql (.lit 19) (.var 0))] 28
 (.dead [])
 (.nb [.setB0 29 (.cmp .eql (.lit 19) (.var 0))] 29
 (.dead [])
 (.nb [.setB0 30 (.cmp .eql (.lit 19) (.var 0))] 30
 (.dead [])
 (.nb [.setB0 31 (.cmp .eql (.lit 51) (.var 0))] 31
 (.dead [])
 (.nb [.setB0 32 (.cmp .eql (.lit 51) (.var 0))] 32
 (.dead [])
 (.nb [.setB0 33 (.cmp .eql (.lit 51) (.var 0))] 33
 (.dead [])
 (.nb [.setB0 34 (.cmp .eql (.lit 51) (.var 0))] 34
 (.dead [])
 (.nb [.setB0 35 (.cmp .eql (.lit 51) (.var 0))] 35
 (.dead [])
 (.nb [.setB0 36 (.cmp .eql (.lit 51) (.var 0))] 36
 (.dead [])
 (.nb [.setB0 37 (.cmp .eql (.lit 51) (.var 0))] 37
 (.dead [])
 (.nb [.setB0 38 (.cmp .eql (.lit 51) (.var 0))] 38
 (.dead [])
 (.nb [.setB0 39 (.cmp .eql (.lit 51) (.var 0))] 39
 (.dead [])
 (.nb [.setB0 40 (.cmp .eql (.lit 51) (.var 0))] 40
 (.dead [])
 (.nb [.setB0 41 (.cmp .eql (.lit 51) (.var 0))] 41
 (.dead [])
 (.nb [.setB0 42 (.cmp .eql (.lit 51) (.var 0))] 42
 (.dead [])
 (.nb [.setB0 43 (.cmp .eql (.lit 51) (.var 0))] 43
 (.dead [])
 (.nb [.setB0 44 (.cmp .eql (.lit 51) (.var 0))] 44
 (.dead [])
 (.nb [.setB0 45 (.cmp .eql (.lit 51) (.var 0))] 45
 (.dead [])
 (.nb [.setB0 46 (.cmp .eql (.lit 51) (.var 0))] 46
 (.dead [])
 (.nb [.setB0 47 (.cmp .eql (.lit 51) (.var 0))] 47
 (.dead [])
 (.nb [.setB0 48 (.cmp .eql (.lit 51) (.var 0))] 48
 (.dead [])
 (.nb [.setB0 49 (.all [(.ii (.var 0) (.lit 55)), (.ii (.var 1) (.lit 0)), (.ii (.var 2) (.lit 0))])] 49
 (.leaf [] (.w (.c (.lit (.int .i64 1)))))
 (.leaf [] (.w (.c (.lit (.int .i64 0))))))))))))))))))))))))))))))))))))))))))))))))))
 (.nb [.setB0 5 (.cmp .eql (.lit 23) (.var 0))] 5
 (.dead [])
 (.nb [.setB0 6 (.cmp .eql (.lit 111) (.var 0))] 6
 (.dead [])
 (.nb [.setB0 7 (.cmp .eql (.lit 103) (.var 0))] 7
 (.dead [])
 (.nb [.setB0 8 (.cmp .eql (.lit 99) (.var 0))] 8
 (.dead [])
 (.nb [.setB0 9 (.cmp .eql (.lit 99) (.var 0))] 9
 (.dead [])
 (.nb [.setB0 10 (.cmp .eql (.lit 99) (.var 0))] 10
 (.dead [])
 (.nb [.setB0 11 (.cmp .eql (.lit 99) (.var 0))] 11
 (.dead [])
 (.nb [.setB0 12 (.cmp .eql (.lit 99) (.var 0))] 12
 (.dead [])
 (.nb [.setB0 13 (.cmp .eql (.lit 99) (.var 0))] 13
 (.dead [])
 (.nb [.setB0 14 (.cmp .eql (.lit 3) (.var 0))] 14
 (.dead [])
 (.nb [.setB0 15 (.cmp .eql (.lit 3) (.var 0))] 15
 (.dead [])
 (.nb [.setB0 16 (.cmp .eql (.lit 3) (.var 0))] 16
 (.dead [])
 (.nb [.setB0 17 (.cmp .eql (.lit 3) (.var 0))] 17
 (.dead [])
 (.nb [.setB0 18 (.cmp .eql (.lit 3) (.var 0))] 18
 (.dead [])
 (.nb [.setB0 19 (.cmp .eql (.lit 35) (.var 0))] 19
 (.dead [])
 (.nb [.setB0 20 (.cmp .eql (.lit 35) (.var 0))] 20
 (.dead [])
 (.nb [.setB0 21 (.cmp .eql (.lit 35) (.var 0))] 21
 (.dead [])
 (.nb [.setB0 22 (.cmp .eql (.lit 19) (.var 0))] 22
 (.dead [])
 (.nb [.setB0 23 (.cmp .eql (.lit 19) (.var 0))] 23
 (.dead [])
 (.nb [.setB0 24 (.cmp .eql (.lit 19) (.var 0))] 24
 (.dead [])
 (.nb [.setB0 25 (.cmp .eql (.lit 19) (.var 0))] 25
 (.dead [])
 (.nb [.setB0 26 (.cmp .eql (.lit 19) (.var 0))] 26
 (.dead [])
 (.nb [.setB0 27 (.cmp .eql (.lit 19) (.var 0))] 27
 (.dead [])
 (.nb [.setB0 28 (.cmp .eql (.lit 19) (.var 0))] 28
 (.dead [])
 (.nb [.setB0 29 (.cmp .eql (.lit 19) (.var 0))] 29
 (.dead [])
 (.nb [.setB0 30 (.cmp .eql (.lit 19) (.var 0))] 30
 (.dead [])
 (.nb [.setB0 31 (.cmp .eql (.lit 51) (.var 0))] 31
 (.dead [])
 (.nb [.setB0 32 (.cmp .eql (.lit 51) (.var 0))] 32
 (.dead [])
 (.nb [.setB0 33 (.cmp .eql (.lit 51) (.var 0))] 33
 (.dead [])
 (.nb [.setB0 34 (.cmp .eql (.lit 51) (.var 0))] 34
 (.dead [])
 (.nb [.setB0 35 (.cmp .eql (.lit 51) (.var 0))] 35
 (.dead [])
 (.nb [.setB0 36 (.cmp .eql (.lit 51) (.var 0))] 36
 (.dead [])
 (.nb [.setB0 37 (.cmp .eql (.lit 51) (.var 0))] 37
 (.dead [])
 (.nb [.setB0 38 (.cmp .eql (.lit 51) (.var 0))] 38
 (.dead [])
 (.nb [.setB0 39 (.cmp .eql (.lit 51) (.var 0))] 39
 (.dead [])
 (.nb [.setB0 40 (.cmp .eql (.lit 51) (.var 0))] 40
 (.dead [])
 (.nb [.setB0 41 (.cmp .eql (.lit 51) (.var 0))] 41
 (.dead [])
 (.nb [.setB0 42 (.cmp .eql (.lit 51) (.var 0))] 42
 (.dead [])
 (.nb [.setB0 43 (.cmp .eql (.lit 51) (.var 0))] 43
 (.dead [])
 (.nb [.setB0 44 (.cmp .eql (.lit 51) (.var 0))] 44
 (.dead [])
 (.nb [.setB0 45 (.cmp .eql (.lit 51) (.var 0))] 45
 (.dead [])
 (.nb [.setB0 46 (.cmp .eql (.lit 51) (.var 0))] 46
 (.dead [])
 (.nb [.setB0 47 (.cmp .eql (.lit 51) (.var 0))] 47
 (.dead [])
 (.nb [.setB0 48 (.cmp .eql (.lit 51) (.var 0))] 48
 (.dead [])
 (.leaf [] (.w (.c (.lit (.int .i64 0))))))))))))))))))))))))))))))))))))))))))))))))))
 (.nb [.setB0 4 (.cmp .eql (.lit 23) (.var 0))] 4
 (.nb [.setB0 5 (.cmp .eql (.lit 0) (.var 1))] 5
 (.nb [.setB0 6 (.cmp .eql (.lit 111) (.var 0))] 6
 (.dead [])
 (.nb [.setB0 7 (.cmp .eql (.lit 103) (.var 0))] 7
 (.dead [])
 (.nb [.setB0 8 (.cmp .eql (.lit 99) (.var 0))] 8
 (.dead [])
 (.nb [.setB0 9 (.cmp .eql (.lit 99) (.var 0))] 9
 (.dead [])
 (.nb [.setB0 10 (.cmp .eql (.lit 99) (.var 0))] 10
 (.dead [])
 (.nb [.setB0 11 (.cmp .eql (.lit 99) (.var 0))] 11
 (.dead [])
 (.nb [.setB0 12 (.cmp .eql (.lit 99) (.var 0))] 12
 (.dead [])
 (.nb [.setB0 13 (.cmp .eql (.lit 99) (.var 0))] 13
 (.dead [])
 (.nb [.setB0 14 (.cmp .eql (.lit 3) (.var 0))] 14
 (.dead [])
 (.nb [.setB0 15 (.cmp .eql (.lit 3) (.var 0))] 15
 (.dead [])
 (.nb [.setB0 16 (.cmp .eql (.lit 3) (.var 0))] 16
 (.dead [])
 (.nb [.setB0 17 (.cmp .eql (.lit 3) (.var 0))] 17
 (.dead [])
 (.nb [.setB0 18 (.cmp .eql (.lit 3) (.var 0))] 18
 (.dead [])
 (.nb [.setB0 19 (.cmp .eql (.lit 35) (.var 0))] 19
 (.dead [])
 (.nb [.setB0 20 (.cmp .eql (.lit 35) (.var 0))] 20
 (.dead [])
 (.nb [.setB0 21 (.cmp .eql (.lit 35) (.var 0))] 21
 (.dead [])
 (.nb [.setB0 22 (.cmp .eql (.lit 19) (.var 0))] 22
 (.dead [])
 (.nb [.setB0 23 (.cmp .eql (.lit 19) (.var 0))] 23
 (.dead [])
 (.nb [.setB0 24 (.cmp .eql (.lit 19) (.var 0))] 24
 (.dead [])
 (.nb [.setB0 25 (.cmp .eql (.lit 19) (.var 0))] 25
 (.dead [])
 (.nb [.setB0 26 (.cmp .eql (.lit 19) (.var 0))] 26
 (.dead [])
 (.nb [.setB0 27 (.cmp .eql (.lit 19) (.var 0))] 27
 (.dead [])
 (.nb [.setB0 28 (.cmp .eql (.lit 19) (.var 0))] 28
 (.dead [])
 (.nb [.setB0 29 (.cmp .eql (.lit 19) (.var 0))] 29
 (.dead [])
 (.nb [.setB0 30 (.cmp .eql (.lit 19) (.var 0))] 30
 (.dead [])
 (.nb [.setB0 31 (.cmp .eql (.lit 51) (.var 0))] 31
 (.dead [])
 (.nb [.setB0 32 (.cmp .eql (.lit 51) (.var 0))] 32
 (.dead [])
 (.nb [.setB0 33 (.cmp .eql (.lit 51) (.var 0))] 33
 (.dead [])
 (.nb [.setB0 34 (.cmp .eql (.lit 51) (.var 0))] 34
 (.dead [])
 (.nb [.setB0 35 (.cmp .eql (.lit 51) (.var 0))] 35
 (.dead [])
 (.nb [.setB0 36 (.cmp .eql (.lit 51) (.var 0))] 36
 (.dead [])
 (.nb [.setB0 37 (.cmp .eql (.lit 51) (.var 0))] 37
 (.dead [])
 (.nb [.setB0 38 (.cmp .eql (.lit 51) (.var 0))] 38
 (.dead [])
 (.nb [.setB0 39 (.cmp .eql (.lit 51) (.var 0))] 39
 (.dead [])
 (.nb [.setB0 40 (.cmp .eql (.lit 51) (.var 0))] 40
 (.dead [])
 (.nb [.setB0 41 (.cmp .eql (.lit 51) (.var 0))] 41
 (.dead [])
 (.nb [.setB0 42 (.cmp .eql (.lit 51) (.var 0))] 42
 (.dead [])
 (.nb [.setB0 43 (.cmp .eql (.lit 51) (.var 0))] 43
 (.dead [])
 (.nb [.setB0 44 (.cmp .eql (.lit 51) (.var 0))] 44
 (.dead [])
 (.nb [.setB0 45 (.cmp .eql (.lit 51) (.var 0))] 45
 (.dead [])
 (.nb [.setB0 46 (.cmp .eql (.lit 51) (.var 0))] 46
 (.dead [])
 (.nb [.setB0 47 (.cmp .eql (.lit 51) (.var 0))] 47
 (.dead [])
 (.nb [.setB0 48 (.cmp .eql (.lit 51) (.var 0))] 48
 (.dead [])
 (.nb [.setB0 49 (.all [(.ii (.var 0) (.lit 23)), (.ii (.var 1) (.lit 0)), (.ii (.var 2) (.lit 0))])] 49
 (.leaf [] (.w (.c (.lit (.int .i64 2)))))
 (.leaf [] (.w (.c (.lit (.int .i64 0)))))))))))))))))))))))))))))))))))))))))))))))))
 (.nb [.setB0 6 (.cmp .eql (.lit 111) (.var 0))] 6
 (.dead [])
 (.nb [.setB0 7 (.cmp .eql (.lit 103) (.var 0))] 7
 (.dead [])
 (.nb [.setB0 8 (.cmp .eql (.lit 99) (.var 0))] 8
 (.dead [])
 (.nb [.setB0 9 (.cmp .eql (.lit 99) (.var 0))] 9
 (.dead [])
 (.nb [.setB0 10 (.cmp .eql (.lit 99) (.var 0))] 10
 (.dead [])
 (.nb [.setB0 11 (.cmp .eql (.lit 99) (.var 0))] 11
 (.dead [])
 (.nb [.setB0 12 (.cmp .eql (.lit 99) (.var 0))] 12
 (.dead [])
 (.nb [.setB0 13 (.cmp .eql (.lit 99) (.var 0))] 13
 (.dead [])
 (.nb [.setB0 14 (.cmp .eql (.lit 3) (.var 0))] 14
 (.dead [])
 (.nb [.setB0 15 (.cmp .eql (.lit 3) (.var 0))] 15
 (.dead [])
 (.nb [.setB0 16 (.cmp .eql (.lit 3) (.var 0))] 16
 (.dead [])
 (.nb [.setB0 17 (.cmp .eql (.lit 3) (.var 0))] 17
 (.dead [])
 (.nb [.setB0 18 (.cmp .eql (.lit 3) (.var 0))] 18
 (.dead [])
 (.nb [.setB0 19 (.cmp .eql (.lit 35) (.var 0))] 19
 (.dead [])
 (.nb [.setB0 20 (.cmp .eql (.lit 35) (.var 0))] 20
 (.dead [])
 (.nb [.setB0 21 (.cmp .eql (.lit 35) (.var 0))] 21
 (.dead [])
 (.nb [.setB0 22 (.cmp .eql (.lit 19) (.var 0))] 22
 (.dead [])
 (.nb [.setB0 23 (.cmp .eql (.lit 19) (.var 0))] 23
 (.dead [])
 (.nb [.setB0 24 (.cmp .eql (.lit 19) (.var 0))] 24
 (.dead [])
 (.nb [.setB0 25 (.cmp .eql (.lit 19) (.var 0))] 25
 (.dead [])
 (.nb [.setB0 26 (.cmp .eql (.lit 19) (.var 0))] 26
 (.dead [])
 (.nb [.setB0 27 (.cmp .eql (.lit 19) (.var 0))] 27
 (.dead [])
 (.nb [.setB0 28 (.cmp .eql (.lit 19) (.var 0))] 28
 (.dead [])
 (.nb [.setB0 29 (.cmp .eql (.lit 19) (.var 0))] 29
 (.dead [])
 (.nb [.setB0 30 (.cmp .eql (.lit 19) (.var 0))] 30
 (.dead [])
 (.nb [.setB0 31 (.cmp .eql (.lit 51) (.var 0))] 31
 (.dead [])
 (.nb [.setB0 32 (.cmp .eql (.lit 51) (.var 0))] 32
 (.dead [])
 (.nb [.setB0 33 (.cmp .eql (.lit 51) (.var 0))] 33
 (.dead [])
 (.nb [.setB0 34 (.cmp .eql (.lit 51) (.var 0))] 34
 (.dead [])
 (.nb [.setB0 35 (.cmp .eql (.lit 51) (.var 0))] 35
 (.dead [])
 (.nb [.setB0 36 (.cmp .eql (.lit 51) (.var 0))] 36
 (.dead [])
 (.nb [.setB0 37 (.cmp .eql (.lit 51) (.var 0))] 37
 (.dead [])
 (.nb [.setB0 38 (.cmp .eql (.lit 51) (.var 0))] 38
 (.dead [])
 (.nb [.setB0 39 (.cmp .eql (.lit 51) (.var 0))] 39
 (.dead [])
 (.nb [.setB0 40 (.cmp .eql (.lit 51) (.var 0))] 40
 (.dead [])
 (.nb [.setB0 41 (.cmp .eql (.lit 51) (.var 0))] 41
 (.dead [])
 (.nb [.setB0 42 (.cmp .eql (.lit 51) (.var 0))] 42
 (.dead [])
 (.nb [.setB0 43 (.cmp .eql (.lit 51) (.var 0))] 43
 (.dead [])
 (.nb [.setB0 44 (.cmp .eql (.lit 51) (.var 0))] 44
 (.dead [])
 (.nb [.setB0 45 (.cmp .eql (.lit 51) (.var 0))] 45
 (.dead [])
 (.nb [.setB0 46 (.cmp .eql (.lit 51) (.var 0))] 46
 (.dead [])
 (.nb [.setB0 47 (.cmp .eql (.lit 51) (.var 0))] 47
 (.dead [])
 (.nb [.setB0 48 (.cmp .eql (.lit 51) (.var 0))] 48
 (.dead [])
 (.leaf [] (.w (.c (.lit (.int .i64 0)))))))))))))))))))))))))))))))))))))))))))))))))
 (.nb [.setB0 5 (.cmp .eql (.lit 111) (.var 0))] 5
 (.nb [.setB0 6 (.cmp .eql (.lit 0) (.var 1))] 6
 (.nb [.setB0 7 (.cmp .eql (.lit 103) (.var 0))] 7
 (.dead [])
 (.nb [.setB0 8 (.cmp .eql (.lit 99) (.var 0))] 8
 (.dead [])
 (.nb [.setB0 9 (.cmp .eql (.lit 99) (.var 0))] 9
 (.dead [])
 (.nb [.setB0 10 (.cmp .eql (.lit 99) (.var 0))] 10
 (.dead [])
 (.nb [.setB0 11 (.cmp .eql (.lit 99) (.var 0))] 11
 (.dead [])
 (.nb [.setB0 12 (.cmp .eql (.lit 99) (.var 0))] 12
 (.dead [])
 (.nb [.setB0 13 (.cmp .eql (.lit 99) (.var 0))] 13
 (.dead [])
 (.nb [.setB0 14 (.cmp .eql (.lit 3) (.var 0))] 14
 (.dead [])
 (.nb [.setB0 15 (.cmp .eql (.lit 3) (.var 0))] 15
 (.dead [])
 (.nb [.setB0 16 (.cmp .eql (.lit 3) (.var 0))] 16
 (.dead [])
 (.nb [.setB0 17 (.cmp .eql (.lit 3) (.var 0))] 17
 (.dead [])
 (.nb [.setB0 18 (.cmp .eql (.lit 3) (.var 0))] 18
 (.dead [])
 (.nb [.setB0 19 (.cmp .eql (.lit 35) (.var 0))] 19
 (.dead [])
 (.nb [.setB0 20 (.cmp .eql (.lit 35) (.var 0))] 20
 (.dead [])
 (.nb [.setB0 21 (.cmp .eql (.lit 35) (.var 0))] 21
 (.dead [])
 (.nb [.setB0 22 (.cmp .eql (.lit 19) (.var 0))] 22
 (.dead [])
 (.nb [.setB0 23 (.cmp .eql (.lit 19) (.var 0))] 23
 (.dead [])
 (.nb [.setB0 24 (.cmp .eql (.lit 19) (.var 0))] 24
 (.dead [])
 (.nb [.setB0 25 (.cmp .eql (.lit 19) (.var 0))] 25
 (.dead [])
 (.nb [.setB0 26 (.cmp .eql (.lit 19) (.var 0))] 26
 (.dead [])
 (.nb [.setB0 27 (.cmp .eql (.lit 19) (.var 0))] 27
 (.dead [])
 (.nb [.setB0 28 (.cmp .eql (.lit 19) (.var 0))] 28
 (.dead [])
 (.nb [.setB0 29 (.cmp .eql (.lit 19) (.var 0))] 29
 (.dead [])
 (.nb [.setB0 30 (.cmp .eql (.lit 19) (.var 0))] 30
 (.dead [])
 (.nb [.setB0 31 (.cmp .eql (.lit 51) (.var 0))] 31
 (.dead [])
 (.nb [.setB0 32 (.cmp .eql (.lit 51) (.var 0))] 32
 (.dead [])
 (.nb [.setB0 33 (.cmp .eql (.lit 51) (.var 0))] 33
 (.dead [])
 (.nb [.setB0 34 (.cmp .eql (.lit 51) (.var 0))] 34
 (.dead [])
 (.nb [.setB0 35 (.cmp .eql (.lit 51) (.var 0))] 35
 (.dead [])
 (.nb [.setB0 36 (.cmp .eql (.lit 51) (.var 0))] 36
 (.dead [])
 (.nb [.setB0 37 (.cmp .eql (.lit 51) (.var 0))] 37
 (.dead [])
 (.nb [.setB0 38 (.cmp .eql (.lit 51) (.var 0))] 38
 (.dead [])
 (.nb [.setB0 39 (.cmp .eql (.lit 51) (.var 0))] 39
 (.dead [])
 (.nb [.setB0 40 (.cmp .eql (.lit 51) (.var 0))] 40
 (.dead [])
 (.nb [.setB0 41 (.cmp .eql (.lit 51) (.var 0))] 41
 (.dead [])
 (.nb [.setB0 42 (.cmp .eql (.lit 51) (.var 0))] 42
 (.dead [])
 (.nb [.setB0 43 (.cmp .eql (.lit 51) (.var 0))] 43
 (.dead [])
 (.nb [.setB0 44 (.cmp .eql (.lit 51) (.var 0))] 44
 (.dead [])
 (.nb [.setB0 45 (.cmp .eql (.lit 51) (.var 0))] 45
 (.dead [])
 (.nb [.setB0 46 (.cmp .eql (.lit 51) (.var 0))] 46
 (.dead [])
 (.nb [.setB0 47 (.cmp .eql (.lit 51) (.var 0))] 47
 (.dead [])
 (.nb [.setB0 48 (.cmp .eql (.lit 51) (.var 0))] 48
 (.dead [])
 (.nb [.setB0 49 (.all [(.ii (.var 0) (.lit 111)), (.ii (.var 1) (.lit 0)), (.ii (.var 2) (.lit 0))])] 49
 (.leaf [] (.w (.c (.lit (.int .i64 3)))))
 (.leaf [] (.w (.c (.lit (.int .i64 0))))))))))))))))))))))))))))))))))))))))))))))))
 (.nb [.setB0 7 (.cmp .eql (.lit 103) (.var 0))] 7
 (.dead [])
 (.nb [.setB0 8 (.cmp .eql (.lit 99) (.var 0))] 8
 (.dead [])
 (.nb [.setB0 9 (.cmp .eql (.lit 99) (.var 0))] 9
 (.dead [])
 (.nb [.setB0 10 (.cmp .eql (.lit 99) (.var 0))] 10
 (.dead [])
 (.nb [.setB0 11 (.cmp .eql (.lit 99) (.var 0))] 11
 (.dead [])
 (.nb [.setB0 12 (.cmp .eql (.lit 99) (.var 0))] 12
 (.dead [])
 (.nb [.setB0 13 (.cmp .eql (.lit 99) (.var 0))] 13
 (.dead [])
 (.nb [.setB0 14 (.cmp .eql (.lit 3) (.var 0))] 14
 (.dead [])
 (.nb [.setB0 15 (.cmp .eql (.lit 3) (.var 0))] 15
 (.dead [])
 (.nb [.setB0 16 (.cmp .eql (.lit 3) (.var 0))] 16
 (.dead [])
 (.nb [.setB0 17 (.cmp .eql (.lit 3) (.var 0))] 17
 (.dead [])
 (.nb [.setB0 18 (.cmp .eql (.lit 3) (.var 0))] 18
 (.dead [])
 (.nb [.setB0 19 (.cmp .eql (.lit 35) (.var 0))] 19
 (.dead [])
 (.nb [.setB0 20 (.cmp .eql (.lit 35) (.var 0))] 20
 (.dead [])
 (.nb [.setB0 21 (.cmp .eql (.lit 35) (.var 0))] 21
 (.dead [])
 (.nb [.setB0 22 (.cmp .eql (.lit 19) (.var 0))] 22
 (.dead [])
 (.nb [.setB0 23 (.cmp .eql (.lit 19) (.var 0))] 23
 (.dead [])
 (.nb [.setB0 24 (.cmp .eql (.lit 19) (.var 0))] 24
 (.dead [])
 (.nb [.setB0 25 (.cmp .eql (.lit 19) (.var 0))] 25
 (.dead [])
 (.nb [.setB0 26 (.cmp .eql (.lit 19) (.var 0))] 26
 (.dead [])
 (.nb [.setB0 27 (.cmp .eql (.lit 19) (.var 0))] 27
 (.dead [])
 (.nb [.setB0 28 (.cmp .eql (.lit 19) (.var 0))] 28
 (.dead [])
 (.nb [.setB0 29 (.cmp .eql (.lit 19) (.var 0))] 29
 (.dead [])
 (.nb [.setB0 30 (.cmp .eql (.lit 19) (.var 0))] 30
 (.dead [])
 (.nb [.setB0 31 (.cmp .eql (.lit 51) (.var 0))] 31
 (.dead [])
 (.nb [.setB0 32 (.cmp .eql (.lit 51) (.var 0))] 32
 (.dead [])
 (.nb [.setB0 33 (.cmp .eql (.lit 51) (.var 0))] 33
 (.dead [])
 (.nb [.setB0 34 (.cmp .eql (.lit 51) (.var 0))] 34
 (.dead [])
 (.nb [.setB0 35 (.cmp .eql (.lit 51) (.var 0))] 35
 (.dead [])
 (.nb [.setB0 36 (.cmp .eql (.lit 51) (.var 0))] 36
 (.dead [])
 (.nb [.setB0 37 (.cmp .eql (.lit 51) (.var 0))] 37
 (.dead [])
 (.nb [.setB0 38 (.cmp .eql (.lit 51) (.var 0))] 38
 (.dead [])
 (.nb [.setB0 39 (.cmp .eql (.lit 51) (.var 0))] 39
 (.dead [])
 (.nb [.setB0 40 (.cmp .eql (.lit 51) (.var 0))] 40
 (.dead [])
 (.nb [.setB0 41 (.cmp .eql (.lit 51) (.var 0))] 41
 (.dead [])
 (.nb [.setB0 42 (.cmp .eql (.lit 51) (.var 0))] 42
 (.dead [])
 (.nb [.setB0 43 (.cmp .eql (.lit 51) (.var 0))] 43
 (.dead [])
 (.nb [.setB0 44 (.cmp .eql (.lit 51) (.var 0))] 44
 (.dead [])
 (.nb [.setB0 45 (.cmp .eql (.lit 51) (.var 0))] 45
 (.dead [])
 (.nb [.setB0 46 (.cmp .eql (.lit 51) (.var 0))] 46
 (.dead [])
 (.nb [.setB0 47 (.cmp .eql (.lit 51) (.var 0))] 47
 (.dead [])
 (.nb [.setB0 48 (.cmp .eql (.lit 51) (.var 0))] 48
 (.dead [])
 (.leaf [] (.w (.c (.lit (.int .i64 0))))))))))))))))))))))))))))))))))))))))))))))))
 (.nb [.setB0 6 (.cmp .eql (.lit 103) (.var 0))] 6
 (.nb [.setB0 7 (.cmp .eql (.lit 0) (.var 1))] 7
 (.nb [.setB0 8 (.cmp .eql (.lit 99) (.var 0))] 8
 (.dead [])
 (.nb [.setB0 9 (.cmp .eql (.lit 99) (.var 0))] 9
 (.dead [])
 (.nb [.setB0 10 (.cmp .eql (.lit 99) (.var 0))] 10
 (.dead [])
 (.nb [.setB0 11 (.cmp .eql (.lit 99) (.var 0))] 11
 (.dead [])
 (.nb [.setB0 12 (.cmp .eql (.lit 99) (.var 0))] 12
 (.dead [])
 (.nb [.setB0 13 (.cmp .eql (.lit 99) (.var 0))] 13
 (.dead [])
 (.nb [.setB0 14 (.cmp .eql (.lit 3) (.var 0))] 14
 (.dead [])
 (.nb [.setB0 15 (.cmp .eql (.lit 3) (.var 0))] 15
 (.dead [])
 (.nb [.setB0 16 (.cmp .eql (.lit 3) (.var 0))] 16
 (.dead [])
 (.nb [.setB0 17 (.cmp .eql (.lit 3) (.var 0))] 17
 (.dead [])
 (.nb [.setB0 18 (.cmp .eql (.lit 3) (.var 0))] 18
 (.dead [])
 (.nb [.setB0 19 (.cmp .eql (.lit 35) (.var 0))] 19
 (.dead [])
 (.nb [.setB0 20 (.cmp .eql (.lit 35) (.var 0))] 20
 (.dead [])
 (.nb [.setB0 21 (.cmp .eql (.lit 35) (.var 0))] 21
 (.dead [])
 (.nb [.setB0 22 (.cmp .eql (.lit 19) (.var 0))] 22
 (.dead [])
 (.nb [.setB0 23 (.cmp .eql (.lit 19) (.var 0))] 23
 (.dead [])
 (.nb [.setB0 24 (.cmp .eql (.lit 19) (.var 0))] 24
 (.dead [])
 (.nb [.setB0 25 (.cmp .eql (.lit 19) (.var 0))] 25
 (.dead [])
 (.nb [.setB0 26 (.cmp .eql (.lit 19) (.var 0))] 26
 (.dead [])
 (.nb [.setB0 27 (.cmp .eql (.lit 19) (.var 0))] 27
 (.dead [])
 (.nb [.setB0 28 (.cmp .eql (.lit 19) (.var 0))] 28
 (.dead [])
 (.nb [.setB0 29 (.cmp .eql (.lit 19) (.var 0))] 29
 (.dead [])
 (.nb [.setB0 30 (.cmp .eql (.lit 19) (.var 0))] 30
 (.dead [])
 (.nb [.setB0 31 (.cmp .eql (.lit 51) (.var 0))] 31
 (.dead [])
 (.nb [.setB0 32 (.cmp .eql (.lit 51) (.var 0))] 32
 (.dead [])
 (.nb [.setB0 33 (.cmp .eql (.lit 51) (.var 0))] 33
 (.dead [])
 (.nb [.setB0 34 (.cmp .eql (.lit 51) (.var 0))] 34
 (.dead [])
 (.nb [.setB0 35 (.cmp .eql (.lit 51) (.var 0))] 35
 (.dead [])
 (.nb [.setB0 36 (.cmp .eql (.lit 51) (.var 0))] 36
 (.dead [])
 (.nb [.setB0 37 (.cmp .eql (.lit 51) (.var 0))] 37
 (.dead [])
 (.nb [.setB0 38 (.cmp .eql (.lit 51) (.var 0))] 38
 (.dead [])
 (.nb [.setB0 39 (.cmp .eql (.lit 51) (.var 0))] 39
 (.dead [])
 (.nb [.setB0 40 (.cmp .eql (.lit 51) (.var 0))] 40
 (.dead [])
 (.nb [.setB0 41 (.cmp .eql (.lit 51) (.var 0))] 41
 (.dead [])
 (.nb [.setB0 42 (.cmp .eql (.lit 51) (.var 0))] 42
 (.dead [])
 (.nb [.setB0 43 (.cmp .eql (.lit 51) (.var 0))] 43
 (.dead [])
 (.nb [.setB0 44 (.cmp .eql (.lit 51) (.var 0))] 44
 (.dead [])
 (.nb [.setB0 45 (.cmp .eql (.lit 51) (.var 0))] 45
 (.dead [])
 (.nb [.setB0 46 (.cmp .eql (.lit 51) (.var 0))] 46
 (.dead [])
 (.nb [.setB0 47 (.cmp .eql (.lit 51) (.var 0))] 47
 (.dead [])
 (.nb [.setB0 48 (.cmp .eql (.lit 51) (.var 0))] 48
 (.dead [])
 (.nb [.setB0 49 (.all [(.ii (.var 0) (.lit 103)), (.ii (.var 1) (.lit 0)), (.ii (.var 2) (.lit 0))])] 49
 (.leaf [] (.w (.c (.lit (.int .i64 4)))))
 (.leaf [] (.w (.c (.lit (.int .i64 0)))))))))))))))))))))))))))))))))))))))))))))))
 (.nb [.setB0 8 (.cmp .eql (.lit 99) (.var 0))] 8
 (.dead [])
 (.nb [.setB0 9 (.cmp .eql (.lit 99) (.var 0))] 9
 (.dead [])
 (.nb [.setB0 10 (.cmp .eql (.lit 99) (.var 0))] 10
 (.dead [])
 (.nb [.setB0 11 (.cmp .eql (.lit 99) (.var 0))] 11
 (.dead [])
 (.nb [.setB0 12 (.cmp .eql (.lit 99) (.var 0))] 12
 (.dead [])
 (.nb [.setB0 13 (.cmp .eql (.lit 99) (.var 0))] 13
 (.dead [])
 (.nb [.setB0 14 (.cmp .eql (.lit 3) (.var 0))] 14
 (.dead [])
 (.nb [.setB0 15 (.cmp .eql (.lit 3) (.var 0))] 15
 (.dead [])
 (.nb [.setB0 16 (.cmp .eql (.lit 3) (.var 0))] 16
 (.dead [])
 (.nb [.setB0 17 (.cmp .eql (.lit 3) (.var 0))] 17
 (.dead [])
 (.nb [.setB0 18 (.cmp .eql (.lit 3) (.var 0))] 18
 (.dead [])
 (.nb [.setB0 19 (.cmp .eql (.lit 35) (.var 0))] 19
 (.dead [])
 (.nb [.setB0 20 (.cmp .eql (.lit 35) (.var 0))] 20
 (.dead [])
 (.nb [.setB0 21 (.cmp .eql (.lit 35) (.var 0))] 21
 (.dead [])
 (.nb [.setB0 22 (.cmp .eql (.lit 19) (.var 0))] 22
 (.dead [])
 (.nb [.setB0 23 (.cmp .eql (.lit 19) (.var 0))] 23
 (.dead [])
 (.nb [.setB0 24 (.cmp .eql (.lit 19) (.var 0))] 24
 (.dead [])
 (.nb [.setB0 25 (.cmp .eql (.lit 19) (.var 0))] 25
 (.dead [])
 (.nb [.setB0 26 (.cmp .eql (.lit 19) (.var 0))] 26
 (.dead [])
 (.nb [.setB0 27 (.cmp .eql (.lit 19) (.var 0))] 27
 (.dead [])
 (.nb [.setB0 28 (.cmp .eql (.lit 19) (.var 0))] 28
 (.dead [])
 (.nb [.setB0 29 (.cmp .eql (.lit 19) (.var 0))] 29
 (.dead [])
 (.nb [.setB0 30 (.cmp .eql (.lit 19) (.var 0))] 30
 (.dead [])
 (.nb [.setB0 31 (.cmp .eql (.lit 51) (.var 0))] 31
 (.dead [])
 (.nb [.setB0 32 (.cmp .eql (.lit 51) (.var 0))] 32
 (.dead [])
 (.nb [.setB0 33 (.cmp .eql (.lit 51) (.var 0))] 33
 (.dead [])
 (.nb [.setB0 34 (.cmp .eql (.lit 51) (.var 0))] 34
 (.dead [])
 (.nb [.setB0 35 (.cmp .eql (.lit 51) (.var 0))] 35
 (.dead [])
 (.nb [.setB0 36 (.cmp .eql (.lit 51) (.var 0))] 36
 (.dead [])
 (.nb [.setB0 37 (.cmp .eql (.lit 51) (.var 0))] 37
 (.dead [])
 (.nb [.setB0 38 (.cmp .eql (.lit 51) (.var 0))] 38
 (.dead [])
 (.nb [.setB0 39 (.cmp .eql (.lit 51) (.var 0))] 39
 (.dead [])
 (.nb [.setB0 40 (.cmp .eql (.lit 51) (.var 0))] 40
 (.dead [])
 (.nb [.setB0 41 (.cmp .eql (.lit 51) (.var 0))] 41
 (.dead [])
 (.nb [.setB0 42 (.cmp .eql (.lit 51) (.var 0))] 42
 (.dead [])
 (.nb [.setB0 43 (.cmp .eql (.lit 51) (.var 0))] 43
 (.dead [])
 (.nb [.setB0 44 (.cmp .eql (.lit 51) (.var 0))] 44
 (.dead [])
 (.nb [.setB0 45 (.cmp .eql (.lit 51) (.var 0))] 45
 (.dead [])
 (.nb [.setB0 46 (.cmp .eql (.lit 51) (.var 0))] 46
 (.dead [])
 (.nb [.setB0 47 (.cmp .eql (.lit 51) (.var 0))] 47
 (.dead [])
 (.nb [.setB0 48 (.cmp .eql (.lit 51) (.var 0))] 48
 (.dead [])
 (.leaf [] (.w (.c (.lit (.int .i64 0)))))))))))))))))))))))))))))))))))))))))))))))
 rvFindT3))))
theorem rvFindT_ok : LT.Ok rvFindR rvFindT [] [] :=
 (LT.ok_nb (LT.ok_nb (LT.ok_nb LT.ok_dead
 (LT.ok_nb LT.ok_dead
 (LT.ok_nb LT.ok_dead
 (LT.ok_nb LT.ok_dead
 (LT.ok_nb LT.ok_dead
 (LT.ok_nb LT.ok_dead
 (LT.ok_nb LT.ok_dead
 (LT.ok_nb LT.ok_dead
 (LT.ok_nb LT.ok_dead
 (LT.ok_nb LT.ok_dead
 (LT.ok_nb LT.ok_dead
 (LT.ok_nb LT.ok_dead
 (LT.ok_nb LT.ok_dead
 (LT.ok_nb LT.ok_dead
 (LT.ok_nb LT.ok_dead
 (LT.ok_nb LT.ok_dead
 (LT.ok_nb LT.ok_dead
 (LT.ok_nb LT.ok_dead
 (LT.ok_nb LT.ok_dead
 (LT.ok_nb LT.ok_dead
 (LT.ok_nb LT.ok_dead
 (LT.ok_nb LT.ok_dead
 (LT.ok_nb LT.ok_dead
 (LT.ok_nb LT.ok_dead
 (LT.ok_nb LT.ok_dead
 (LT.ok_nb LT.ok_dead
 (LT.ok_nb LT.ok_dead
 (LT.ok_nb LT.ok_dead
 (LT.ok_nb LT.ok_dead
 (LT.ok_nb LT.ok_dead
 (LT.ok_nb LT.ok_dead
 (LT.ok_nb LT.ok_dead
 (LT.ok_nb LT.ok_dead
 (LT.ok_nb LT.ok_dead
 (LT.ok_nb LT.ok_dead
 (LT.ok_nb LT.ok_dead
 (LT.ok_nb LT.ok_dead
 (LT.ok_nb LT.ok_dead
 (LT.ok_nb LT.ok_dead
 (LT.ok_nb LT.ok_dead
 (LT.ok_nb LT.ok_dead
 (LT.ok_nb LT.ok_dead
 (LT.ok_nb LT.ok_dead
 (LT.ok_nb LT.ok_dead
 (LT.ok_nb (LT.ok_leaf (by kernel_rfl))
 (LT.ok_leaf (by kernel_rfl)))))))))))))))))))))))))))))))))))))))))))))))
 (LT.ok_nb LT.ok_dead
 (LT.ok_nb LT.ok_dead
 (LT.ok_nb LT.ok_dead
 (LT.ok_nb LT.ok_dead
 (LT.ok_nb LT.ok_dead
 (LT.ok_nb LT.ok_dead
 (LT.ok_nb LT.ok_dead
 (LT.ok_nb LT.ok_dead
 (LT.ok_nb LT.ok_dead
 (LT.ok_nb LT.ok_dead
 (LT.ok_nb LT.ok_dead
 (LT.ok_nb LT.ok_dead
 (LT.ok_nb LT.ok_dead
 (LT.ok_nb LT.ok_dead
 (LT.ok_nb LT.ok_dead
 (LT.ok_nb LT.ok_dead
 (LT.ok_nb LT.ok_dead
 (LT.ok_nb LT.ok_dead
 (LT.ok_nb LT.ok_dead
 (LT.ok_nb LT.ok_dead
 (LT.ok_nb LT.ok_dead
 (LT.ok_nb LT.ok_dead
 (LT.ok_nb LT.ok_dead
 (LT.ok_nb LT.ok_dead
 (LT.ok_nb LT.ok_dead
 (LT.ok_nb LT.ok_dead
 (LT.ok_nb LT.ok_dead
 (LT.ok_nb LT.ok_dead
 (LT.ok_nb LT.ok_dead
 (LT.ok_nb LT.ok_dead
 (LT.ok_nb LT.ok_dead
 (LT.ok_nb LT.ok_dead
 (LT.ok_nb LT.ok_dead
 (LT.ok_nb LT.ok_dead
 (LT.ok_nb LT.ok_dead
 (LT.ok_nb LT.ok_dead
 (LT.ok_nb LT.ok_dead
 (LT.ok_nb LT.ok_dead
 (LT.ok_nb LT.ok_dead
 (LT.ok_nb LT.ok_dead
 (LT.ok_nb LT.ok_dead
 (LT.ok_nb LT.ok_dead
 (LT.ok_nb LT.ok_dead
 (LT.ok_nb LT.ok_dead
 (LT.ok_leaf (by kernel_rfl)))))))))))))))))))))))))))))))))))))))))))))))
 (LT.ok_nb (LT.ok_nb (LT.ok_nb LT.ok_dead
 (LT.ok_nb LT.ok_dead
 (LT.ok_nb LT.ok_dead
 (LT.ok_nb LT.ok_dead
 (LT.ok_nb LT.ok_dead
 (LT.ok_nb LT.ok_dead
 (LT.ok_nb LT.ok_dead
 (LT.ok_nb LT.ok_dead
 (LT.ok_nb LT.ok_dead
 (LT.ok_nb LT.ok_dead
 (LT.ok_nb LT.ok_dead
 (LT.ok_nb LT.ok_dead
 (LT.ok_nb LT.ok_dead
 (LT.ok_nb LT.ok_dead
 (LT.ok_nb LT.ok_dead
 (LT.ok_nb LT.ok_dead
 (LT.ok_nb LT.ok_dead
 (LT.ok_nb LT.ok_dead
 (LT.ok_nb LT.ok_dead
 (LT.ok_nb LT.ok_dead
 (LT.ok_nb LT.ok_dead
 (LT.ok_nb LT.ok_dead
 (LT.ok_nb LT.ok_dead
 (LT.ok_nb LT.ok_dead
 (LT.ok_nb LT.ok_dead
 (LT.ok_nb LT.ok_dead
 (LT.ok_nb LT.ok_dead
 (LT.ok_nb LT.ok_dead
 (LT.ok_nb LT.ok_dead
 (LT.ok_nb LT.ok_dead
 (LT.ok_nb LT.ok_dead
 (LT.ok_nb LT.ok_dead
 (LT.ok_nb LT.ok_dead
 (LT.ok_nb LT.ok_dead
 (LT.ok_nb LT.ok_dead
 (LT.ok_nb LT.ok_dead
 (LT.ok_nb LT.ok_dead
 (LT.ok_nb LT.ok_dead
 (LT.ok_nb LT.ok_dead
 (LT.ok_nb LT.ok_dead
 (LT.ok_nb LT.ok_dead
 (LT.ok_nb LT.ok_dead
 (LT.ok_nb LT.ok_dead
 (LT.ok_nb (LT.ok_leaf (by kernel_rfl))
 (LT.ok_leaf (by kernel_rfl))))))))))))))))))))))))))))))))))))))))))))))
 (LT.ok_nb LT.ok_dead
 (LT.ok_nb LT.ok_dead
 (LT.ok_nb LT.ok_dead
 (LT.ok_nb LT.ok_dead
 (LT.ok_nb LT.ok_dead
 (LT.ok_nb LT.ok_dead
 (LT.ok_nb LT.ok_dead
 (LT.ok_nb LT.ok_dead
 (LT.ok_nb LT.ok_dead
 (LT.ok_nb LT.ok_dead
 (LT.ok_nb LT.ok_dead
 (LT.ok_nb LT.ok_dead
 (LT.ok_nb LT.ok_dead
 (LT.ok_nb LT.ok_dead
 (LT.ok_nb LT.ok_dead
 (LT.ok_nb LT.ok_dead
 (LT.ok_nb LT.ok_dead
 (LT.ok_nb LT.ok_dead
 (LT.ok_nb LT.ok_dead
 (LT.ok_nb LT.ok_dead
 (LT.ok_nb LT.ok_dead
 (LT.ok_nb LT.ok_dead
 (LT.ok_nb LT.ok_dead
 (LT.ok_nb LT.ok_dead
 (LT.ok_nb LT.ok_dead
 (LT.ok_nb LT.ok_dead
 (LT.ok_nb LT.ok_dead
 (LT.ok_nb LT.ok_dead
 (LT.ok_nb LT.ok_dead
 (LT.ok_nb LT.ok_dead
 (LT.ok_nb LT.ok_dead
 (LT.ok_nb LT.ok_dead
 (LT.ok_nb LT.ok_dead
 (LT.ok_nb LT.ok_dead
 (LT.ok_nb LT.ok_dead
 (LT.ok_nb LT.ok_dead
 (LT.ok_nb LT.ok_dead
 (LT.ok_nb LT.ok_dead
 (LT.ok_nb LT.ok_dead
 (LT.ok_nb LT.ok_dead
 (LT.ok_nb LT.ok_dead
 (LT.ok_nb LT.ok_dead
 (LT.ok_nb LT.ok_dead
 (LT.ok_leaf (by kernel_rfl))))))))))))))))))))))))))))))))))))))))))))))
 (LT.ok_nb (LT.ok_nb (LT.ok_nb LT.ok_dead
 (LT.ok_nb LT.ok_dead
 (LT.ok_nb LT.ok_dead
 (LT.ok_nb LT.ok_dead
 (LT.ok_nb LT.ok_dead
 (LT.ok_nb LT.ok_dead
 (LT.ok_nb LT.ok_dead
 (LT.ok_nb LT.ok_dead
 (LT.ok_nb LT.ok_dead
 (LT.ok_nb LT.ok_dead
 (LT.ok_nb LT.ok_dead
 (LT.ok_nb LT.ok_dead
 (LT.ok_nb LT.ok_dead
 (LT.ok_nb LT.ok_dead
 (LT.ok_nb LT.ok_dead
 (LT.ok_nb LT.ok_dead
 (LT.ok_nb LT.ok_dead
 (LT.ok_nb LT.ok_dead
 (LT.ok_nb LT.ok_dead
 (LT.ok_nb LT.ok_dead
 (LT.ok_nb LT.ok_dead
 (LT.ok_nb LT.ok_dead
 (LT.ok_nb LT.ok_dead
 (LT.ok_nb LT.ok_dead
 (LT.ok_nb LT.ok_dead
 (LT.ok_nb LT.ok_dead
 (LT.ok_nb LT.ok_dead
 (LT.ok_nb LT.ok_dead
 (LT.ok_nb LT.ok_dead
 (LT.ok_nb LT.ok_dead
 (LT.ok_nb LT.ok_dead
 (LT.ok_nb LT.ok_dead
 (LT.ok_nb LT.ok_dead
 (LT.ok_nb LT.ok_dead
 (LT.ok_nb LT.ok_dead
 (LT.ok_nb LT.ok_dead
 (LT.ok_nb LT.ok_dead
 (LT.ok_nb LT.ok_dead
 (LT.ok_nb LT.ok_dead
 (LT.ok_nb LT.ok_dead
 (LT.ok_nb LT.ok_dead
 (LT.ok_nb LT.ok_dead
 (LT.ok_nb (LT.ok_leaf (by kernel_rfl))
 (LT.ok_leaf (by kernel_rfl)))))))))))))))))))))))))))))))))))))))))))))
 (LT.ok_nb LT.ok_dead
 (LT.ok_nb LT.ok_dead
 (LT.ok_nb LT.ok_dead
 (LT.ok_nb LT.ok_dead
 (LT.ok_nb LT.ok_dead
 (LT.ok_nb LT.ok_dead
 (LT.ok_nb LT.ok_dead
 (LT.ok_nb LT.ok_dead
 (LT.ok_nb LT.ok_dead
 (LT.ok_nb LT.ok_dead
 (LT.ok_nb LT.ok_dead
 (LT.ok_nb LT.ok_dead
 (LT.ok_nb LT.ok_dead
 (LT.ok_nb LT.ok_dead
 (LT.ok_nb LT.ok_dead
 (LT.ok_nb LT.ok_dead
 (LT.ok_nb LT.ok_dead
 (LT.ok_nb LT.ok_dead
 (LT.ok_nb LT.ok_dead
 (LT.ok_nb LT.ok_dead
 (LT.ok_nb LT.ok_dead
 (LT.ok_nb LT.ok_dead
 (LT.ok_nb LT.ok_dead
 (LT.ok_nb LT.ok_dead
 (LT.ok_nb LT.ok_dead
 (LT.ok_nb LT.ok_dead
 (LT.ok_nb LT.ok_dead
 (LT.ok_nb LT.ok_dead
 (LT.ok_nb LT.ok_dead
 (LT.ok_nb LT.ok_dead
 (LT.ok_nb LT.ok_dead
 (LT.ok_nb LT.ok_dead
 (LT.ok_nb LT.ok_dead
 (LT.ok_nb LT.ok_dead
 (LT.ok_nb LT.ok_dead
 (LT.ok_nb LT.ok_dead
 (LT.ok_nb LT.ok_dead
 (LT.ok_nb LT.ok_dead
 (LT.ok_nb LT.ok_dead
 (LT.ok_nb LT.ok_dead
 (LT.ok_nb LT.ok_dead
 (LT.ok_nb LT.ok_dead
 (LT.ok_leaf (by kernel_rfl)))))))))))))))))))))))))))))))))))))))))))))
 (LT.ok_nb (LT.ok_nb (LT.ok_nb LT.ok_dead
 (LT.ok_nb LT.ok_dead
 (LT.ok_nb LT.ok_dead
 (LT.ok_nb LT.ok_dead
 (LT.ok_nb LT.ok_dead
 (LT.ok_nb LT.ok_dead
 (LT.ok_nb LT.ok_dead
 (LT.ok_nb LT.ok_dead
 (LT.ok_nb LT.ok_dead
 (LT.ok_nb LT.ok_dead
 (LT.ok_nb LT.ok_dead
 (LT.ok_nb LT.ok_dead
 (LT.ok_nb LT.ok_dead
 (LT.ok_nb LT.ok_dead
 (LT.ok_nb LT.ok_dead
 (LT.ok_nb LT.ok_dead
 (LT.ok_nb LT.ok_dead
 (LT.ok_nb LT.ok_dead
 (LT.ok_nb LT.ok_dead
 (LT.ok_nb LT.ok_dead
 (LT.ok_nb LT.ok_dead
 (LT.ok_nb LT.ok_dead
 (LT.ok_nb LT.ok_dead
 (LT.ok_nb LT.ok_dead
 (LT.ok_nb LT.ok_dead
 (LT.ok_nb LT.ok_dead
 (LT.ok_nb LT.ok_dead
 (LT.ok_nb LT.ok_dead
 (LT.ok_nb LT.ok_dead
 (LT.ok_nb LT.ok_dead
 (LT.ok_nb LT.ok_dead
 (LT.ok_nb LT.ok_dead
 (LT.ok_nb LT.ok_dead
 (LT.ok_nb LT.ok_dead
 (LT.ok_nb LT.ok_dead
 (LT.ok_nb LT.ok_dead
 (LT.ok_nb LT.ok_dead
 (LT.ok_nb LT.ok_dead
 (LT.ok_nb LT.ok_dead
 (LT.ok_nb LT.ok_dead
 (LT.ok_nb LT.ok_dead
 (LT.ok_nb (LT.ok_leaf (by kernel_rfl))
 (LT.ok_leaf (by kernel_rfl))))))))))))))))))))))))))))))))))))))))))))
 (LT.ok_nb LT.ok_dead
 (LT.ok_nb LT.ok_dead
 (LT.ok_nb LT.ok_dead
 (LT.ok_nb LT.ok_dead
 (LT.ok_nb LT.ok_dead
 (LT.ok_nb LT.ok_dead
 (LT.ok_nb LT.ok_dead
 (LT.ok_nb LT.ok_dead
 (LT.ok_nb LT.ok_dead
 (LT.ok_nb LT.ok_dead
 (LT.ok_nb LT.ok_dead
 (LT.ok_nb LT.ok_dead
 (LT.ok_nb LT.ok_dead
 (LT.ok_nb LT.ok_dead
 (LT.ok_nb LT.ok_dead
 (LT.ok_nb LT.ok_dead
 (LT.ok_nb LT.ok_dead
 (LT.ok_nb LT.ok_dead
 (LT.ok_nb LT.ok_dead
 (LT.ok_nb LT.ok_dead
 (LT.ok_nb LT.ok_dead
 (LT.ok_nb LT.ok_dead
 (LT.ok_nb LT.ok_dead
 (LT.ok_nb LT.ok_dead
 (LT.ok_nb LT.ok_dead
 (LT.ok_nb LT.ok_dead
 (LT.ok_nb LT.ok_dead
 (LT.ok_nb LT.ok_dead
 (LT.ok_nb LT.ok_dead
 (LT.ok_nb LT.ok_dead
 (LT.ok_nb LT.ok_dead
 (LT.ok_nb LT.ok_dead
 (LT.ok_nb LT.ok_dead
 (LT.ok_nb LT.ok_dead
 (LT.ok_nb LT.ok_dead
 (LT.ok_nb LT.ok_dead
 (LT.ok_nb LT.ok_dead
 (LT.ok_nb LT.ok_dead
 (LT.ok_nb LT.ok_dead
 (LT.ok_nb LT.ok_dead
 (LT.ok_nb LT.ok_dead
 (LT.ok_leaf (by kernel_rfl))))))))))))))))))))))))))))))))))))))))))))
 rvFindT3_ok))))
theorem rvFind_ok : SumT Tryd.prog phi 44 rvFindS := treeSum (t := rvFindT) (lf := 1000) (d := 20) rvFindC_ok (fun xs w => Tryd.call44 xs w)
 rvFindT_ok
 (by kernel_rfl)
 (by
  intro a0 h0 a1 h1 a2 h2
  exact ⟨obl_nil (by kernel_rfl), by kernel_rfl⟩)
end Go.Proofs.YtahhfjmgdalfpaaDoor
