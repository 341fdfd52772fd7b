/- What the functions do, part 2; for every memory. -/
import Derived.Test.YtdefmgkicdhmkaaQ1
namespace Go.Proofs.Ytdefmgkicdhmkaa
open Go Go.Sx
set_option linter.unusedVariables false
set_option maxRecDepth 100000
set_option maxHeartbeats 2000000
def sh_f10_j1 (Q : QW) (b59 : Nat) (o1 : Nat) (w123 : World) : Prop :=
  Q (.tuple #[.pointer (some ⟨b59, o1, none⟩), .nilIface]) w123
def sh_f10 (a0 : G_api_Config) (Q : QW) (w0 : World) : Prop :=
  al t_api_Config 26 w0 a0 fun b1 w1 => ld t_api_Config w1 b1 0 fun x1 => CallsR PP n_f28 #[t_api_Config.val x1] (fun v1 w2 => ∃ x2 : Bool, v1 = .bool x2 /\ (br (!x2) (Q (.tuple #[.pointer none, .iface 94 (.int .i64 2)]) w2) (al t_api_Point 38 w2 (⟨0, 0⟩ : G_api_Point) fun b2 w3 => st t_api_Point w3 b2 0 (⟨0, 1⟩ : G_api_Point) fun w4 => ld tSl w4 b1 0 fun x3 => app 36 1 8 w4 nilSl x3 fun x4 w5 => st tSl w5 b1 0 x4 fun w6 => dw w6 fun w7 => ld t_api_Config w7 b1 0 fun x5 => ld tSl w7 b1 0 fun x6 => ld t_api_Point w7 b2 0 fun x7 => ld t_api_Point w7 b2 0 fun x8 => ld t_api_Config w7 b1 0 fun x9 => ((CallsR PP n_f29 #[.int .u64 1, .int .i64 0] (fun v2 w8 => ∃ x10 : Option Addr, v2 = .pointer x10 /\ (chk t_api_Config w8 b1 0 x5 <| chk tSl w8 b1 0 x6 <| chk t_api_Point w8 b2 0 x7 <| chk t_api_Point w8 b2 0 x8 <| chk t_api_Config w8 b1 0 x9 <| ((CallsR PP n_f30 #[.int .i64 (x6.len : Int)] (fun v3 w9 => ∃ x11 : Sl, v3 = .slice x11.a x11.len x11.cap /\ (chk t_api_Config w9 b1 0 x5 <| chk t_api_Point w9 b2 0 x7 <| chk t_api_Point w9 b2 0 x8 <| chk t_api_Config w9 b1 0 x9 <| ((mkm w9 fun b3 w10 => chk t_api_Config w10 b1 0 x5 <| chk t_api_Point w10 b2 0 x7 <| chk t_api_Point w10 b2 0 x8 <| chk t_api_Config w10 b1 0 x9 <| ((CallsR PP n_f18 #[t_api_Config.val x9, .int .u64 1] (fun v4 w11 => ∃ x12 : G_ledger_State, v4 = t_ledger_State.val x12 /\ (chk t_api_Config w11 b1 0 x5 <| chk t_api_Point w11 b2 0 x7 <| chk t_api_Point w11 b2 0 x8 <| ((mset t_ledger_State w11 (some b3) 1 x12 fun w12 => chk t_api_Config w12 b1 0 x5 <| chk t_api_Point w12 b2 0 x7 <| chk t_api_Point w12 b2 0 x8 <| mkm w12 fun b4 w13 => chk t_api_Config w13 b1 0 x5 <| chk t_api_Point w13 b2 0 x7 <| chk t_api_Point w13 b2 0 x8 <| al t_store_Store 43 w13 (⟨x5, x10, x11, 0, 0, x7, x8, (some b3), (some b4), nilSl⟩ : G_store_Store) fun b5 w14 => (sh_f10_j1 Q b5 0 w14)) /\ (mkm w11 fun b6 w15 => chk t_api_Config w15 b1 0 x5 <| chk t_api_Point w15 b2 0 x7 <| chk t_api_Point w15 b2 0 x8 <| mset t_ledger_State w15 (some b3) 1 x12 fun w16 => chk t_api_Config w16 b1 0 x5 <| chk t_api_Point w16 b2 0 x7 <| chk t_api_Point w16 b2 0 x8 <| al t_store_Store 43 w16 (⟨x5, x10, x11, 0, 0, x7, x8, (some b3), (some b6), nilSl⟩ : G_store_Store) fun b7 w17 => (sh_f10_j1 Q b7 0 w17))))) w10) /\ (mkm w10 fun b8 w18 => chk t_api_Config w18 b1 0 x5 <| chk t_api_Point w18 b2 0 x7 <| chk t_api_Point w18 b2 0 x8 <| chk t_api_Config w18 b1 0 x9 <| CallsR PP n_f18 #[t_api_Config.val x9, .int .u64 1] (fun v5 w19 => ∃ x13 : G_ledger_State, v5 = t_ledger_State.val x13 /\ (chk t_api_Config w19 b1 0 x5 <| chk t_api_Point w19 b2 0 x7 <| chk t_api_Point w19 b2 0 x8 <| mset t_ledger_State w19 (some b3) 1 x13 fun w20 => chk t_api_Config w20 b1 0 x5 <| chk t_api_Point w20 b2 0 x7 <| chk t_api_Point w20 b2 0 x8 <| al t_store_Store 43 w20 (⟨x5, x10, x11, 0, 0, x7, x8, (some b3), (some b8), nilSl⟩ : G_store_Store) fun b9 w21 => (sh_f10_j1 Q b9 0 w21))) w18))) /\ (CallsR PP n_f18 #[t_api_Config.val x9, .int .u64 1] (fun v6 w22 => ∃ x14 : G_ledger_State, v6 = t_ledger_State.val x14 /\ (chk t_api_Config w22 b1 0 x5 <| chk t_api_Point w22 b2 0 x7 <| chk t_api_Point w22 b2 0 x8 <| ((mkm w22 fun b10 w23 => chk t_api_Config w23 b1 0 x5 <| chk t_api_Point w23 b2 0 x7 <| chk t_api_Point w23 b2 0 x8 <| ((mset t_ledger_State w23 (some b10) 1 x14 fun w24 => chk t_api_Config w24 b1 0 x5 <| chk t_api_Point w24 b2 0 x7 <| chk t_api_Point w24 b2 0 x8 <| mkm w24 fun b11 w25 => chk t_api_Config w25 b1 0 x5 <| chk t_api_Point w25 b2 0 x7 <| chk t_api_Point w25 b2 0 x8 <| al t_store_Store 43 w25 (⟨x5, x10, x11, 0, 0, x7, x8, (some b10), (some b11), nilSl⟩ : G_store_Store) fun b12 w26 => (sh_f10_j1 Q b12 0 w26)) /\ (mkm w23 fun b13 w27 => chk t_api_Config w27 b1 0 x5 <| chk t_api_Point w27 b2 0 x7 <| chk t_api_Point w27 b2 0 x8 <| mset t_ledger_State w27 (some b10) 1 x14 fun w28 => chk t_api_Config w28 b1 0 x5 <| chk t_api_Point w28 b2 0 x7 <| chk t_api_Point w28 b2 0 x8 <| al t_store_Store 43 w28 (⟨x5, x10, x11, 0, 0, x7, x8, (some b10), (some b13), nilSl⟩ : G_store_Store) fun b14 w29 => (sh_f10_j1 Q b14 0 w29)))) /\ (mkm w22 fun b15 w30 => chk t_api_Config w30 b1 0 x5 <| chk t_api_Point w30 b2 0 x7 <| chk t_api_Point w30 b2 0 x8 <| mkm w30 fun b16 w31 => chk t_api_Config w31 b1 0 x5 <| chk t_api_Point w31 b2 0 x7 <| chk t_api_Point w31 b2 0 x8 <| mset t_ledger_State w31 (some b16) 1 x14 fun w32 => chk t_api_Config w32 b1 0 x5 <| chk t_api_Point w32 b2 0 x7 <| chk t_api_Point w32 b2 0 x8 <| al t_store_Store 43 w32 (⟨x5, x10, x11, 0, 0, x7, x8, (some b16), (some b15), nilSl⟩ : G_store_Store) fun b17 w33 => (sh_f10_j1 Q b17 0 w33))))) w9) /\ (mkm w9 fun b18 w34 => chk t_api_Config w34 b1 0 x5 <| chk t_api_Point w34 b2 0 x7 <| chk t_api_Point w34 b2 0 x8 <| chk t_api_Config w34 b1 0 x9 <| ((mkm w34 fun b19 w35 => chk t_api_Config w35 b1 0 x5 <| chk t_api_Point w35 b2 0 x7 <| chk t_api_Point w35 b2 0 x8 <| chk t_api_Config w35 b1 0 x9 <| CallsR PP n_f18 #[t_api_Config.val x9, .int .u64 1] (fun v7 w36 => ∃ x15 : G_ledger_State, v7 = t_ledger_State.val x15 /\ (chk t_api_Config w36 b1 0 x5 <| chk t_api_Point w36 b2 0 x7 <| chk t_api_Point w36 b2 0 x8 <| mset t_ledger_State w36 (some b19) 1 x15 fun w37 => chk t_api_Config w37 b1 0 x5 <| chk t_api_Point w37 b2 0 x7 <| chk t_api_Point w37 b2 0 x8 <| al t_store_Store 43 w37 (⟨x5, x10, x11, 0, 0, x7, x8, (some b19), (some b18), nilSl⟩ : G_store_Store) fun b20 w38 => (sh_f10_j1 Q b20 0 w38))) w35) /\ (CallsR PP n_f18 #[t_api_Config.val x9, .int .u64 1] (fun v8 w39 => ∃ x16 : G_ledger_State, v8 = t_ledger_State.val x16 /\ (chk t_api_Config w39 b1 0 x5 <| chk t_api_Point w39 b2 0 x7 <| chk t_api_Point w39 b2 0 x8 <| mkm w39 fun b21 w40 => chk t_api_Config w40 b1 0 x5 <| chk t_api_Point w40 b2 0 x7 <| chk t_api_Point w40 b2 0 x8 <| mset t_ledger_State w40 (some b21) 1 x16 fun w41 => chk t_api_Config w41 b1 0 x5 <| chk t_api_Point w41 b2 0 x7 <| chk t_api_Point w41 b2 0 x8 <| al t_store_Store 43 w41 (⟨x5, x10, x11, 0, 0, x7, x8, (some b21), (some b18), nilSl⟩ : G_store_Store) fun b22 w42 => (sh_f10_j1 Q b22 0 w42))) w34)))))) w8) /\ (mkm w8 fun b23 w43 => chk t_api_Config w43 b1 0 x5 <| chk tSl w43 b1 0 x6 <| chk t_api_Point w43 b2 0 x7 <| chk t_api_Point w43 b2 0 x8 <| chk t_api_Config w43 b1 0 x9 <| ((CallsR PP n_f30 #[.int .i64 (x6.len : Int)] (fun v9 w44 => ∃ x17 : Sl, v9 = .slice x17.a x17.len x17.cap /\ (chk t_api_Config w44 b1 0 x5 <| chk t_api_Point w44 b2 0 x7 <| chk t_api_Point w44 b2 0 x8 <| chk t_api_Config w44 b1 0 x9 <| ((CallsR PP n_f18 #[t_api_Config.val x9, .int .u64 1] (fun v10 w45 => ∃ x18 : G_ledger_State, v10 = t_ledger_State.val x18 /\ (chk t_api_Config w45 b1 0 x5 <| chk t_api_Point w45 b2 0 x7 <| chk t_api_Point w45 b2 0 x8 <| ((mset t_ledger_State w45 (some b23) 1 x18 fun w46 => chk t_api_Config w46 b1 0 x5 <| chk t_api_Point w46 b2 0 x7 <| chk t_api_Point w46 b2 0 x8 <| mkm w46 fun b24 w47 => chk t_api_Config w47 b1 0 x5 <| chk t_api_Point w47 b2 0 x7 <| chk t_api_Point w47 b2 0 x8 <| al t_store_Store 43 w47 (⟨x5, x10, x17, 0, 0, x7, x8, (some b23), (some b24), nilSl⟩ : G_store_Store) fun b25 w48 => (sh_f10_j1 Q b25 0 w48)) /\ (mkm w45 fun b26 w49 => chk t_api_Config w49 b1 0 x5 <| chk t_api_Point w49 b2 0 x7 <| chk t_api_Point w49 b2 0 x8 <| mset t_ledger_State w49 (some b23) 1 x18 fun w50 => chk t_api_Config w50 b1 0 x5 <| chk t_api_Point w50 b2 0 x7 <| chk t_api_Point w50 b2 0 x8 <| al t_store_Store 43 w50 (⟨x5, x10, x17, 0, 0, x7, x8, (some b23), (some b26), nilSl⟩ : G_store_Store) fun b27 w51 => (sh_f10_j1 Q b27 0 w51))))) w44) /\ (mkm w44 fun b28 w52 => chk t_api_Config w52 b1 0 x5 <| chk t_api_Point w52 b2 0 x7 <| chk t_api_Point w52 b2 0 x8 <| chk t_api_Config w52 b1 0 x9 <| CallsR PP n_f18 #[t_api_Config.val x9, .int .u64 1] (fun v11 w53 => ∃ x19 : G_ledger_State, v11 = t_ledger_State.val x19 /\ (chk t_api_Config w53 b1 0 x5 <| chk t_api_Point w53 b2 0 x7 <| chk t_api_Point w53 b2 0 x8 <| mset t_ledger_State w53 (some b23) 1 x19 fun w54 => chk t_api_Config w54 b1 0 x5 <| chk t_api_Point w54 b2 0 x7 <| chk t_api_Point w54 b2 0 x8 <| al t_store_Store 43 w54 (⟨x5, x10, x17, 0, 0, x7, x8, (some b23), (some b28), nilSl⟩ : G_store_Store) fun b29 w55 => (sh_f10_j1 Q b29 0 w55))) w52)))) w43) /\ (mkm w43 fun b30 w56 => chk t_api_Config w56 b1 0 x5 <| chk tSl w56 b1 0 x6 <| chk t_api_Point w56 b2 0 x7 <| chk t_api_Point w56 b2 0 x8 <| chk t_api_Config w56 b1 0 x9 <| CallsR PP n_f30 #[.int .i64 (x6.len : Int)] (fun v12 w57 => ∃ x20 : Sl, v12 = .slice x20.a x20.len x20.cap /\ (chk t_api_Config w57 b1 0 x5 <| chk t_api_Point w57 b2 0 x7 <| chk t_api_Point w57 b2 0 x8 <| chk t_api_Config w57 b1 0 x9 <| CallsR PP n_f18 #[t_api_Config.val x9, .int .u64 1] (fun v13 w58 => ∃ x21 : G_ledger_State, v13 = t_ledger_State.val x21 /\ (chk t_api_Config w58 b1 0 x5 <| chk t_api_Point w58 b2 0 x7 <| chk t_api_Point w58 b2 0 x8 <| mset t_ledger_State w58 (some b23) 1 x21 fun w59 => chk t_api_Config w59 b1 0 x5 <| chk t_api_Point w59 b2 0 x7 <| chk t_api_Point w59 b2 0 x8 <| al t_store_Store 43 w59 (⟨x5, x10, x20, 0, 0, x7, x8, (some b23), (some b30), nilSl⟩ : G_store_Store) fun b31 w60 => (sh_f10_j1 Q b31 0 w60))) w57)) w56))) /\ (mkm w8 fun b32 w61 => chk t_api_Config w61 b1 0 x5 <| chk tSl w61 b1 0 x6 <| chk t_api_Point w61 b2 0 x7 <| chk t_api_Point w61 b2 0 x8 <| chk t_api_Config w61 b1 0 x9 <| ((CallsR PP n_f30 #[.int .i64 (x6.len : Int)] (fun v14 w62 => ∃ x22 : Sl, v14 = .slice x22.a x22.len x22.cap /\ (chk t_api_Config w62 b1 0 x5 <| chk t_api_Point w62 b2 0 x7 <| chk t_api_Point w62 b2 0 x8 <| chk t_api_Config w62 b1 0 x9 <| ((mkm w62 fun b33 w63 => chk t_api_Config w63 b1 0 x5 <| chk t_api_Point w63 b2 0 x7 <| chk t_api_Point w63 b2 0 x8 <| chk t_api_Config w63 b1 0 x9 <| CallsR PP n_f18 #[t_api_Config.val x9, .int .u64 1] (fun v15 w64 => ∃ x23 : G_ledger_State, v15 = t_ledger_State.val x23 /\ (chk t_api_Config w64 b1 0 x5 <| chk t_api_Point w64 b2 0 x7 <| chk t_api_Point w64 b2 0 x8 <| mset t_ledger_State w64 (some b33) 1 x23 fun w65 => chk t_api_Config w65 b1 0 x5 <| chk t_api_Point w65 b2 0 x7 <| chk t_api_Point w65 b2 0 x8 <| al t_store_Store 43 w65 (⟨x5, x10, x22, 0, 0, x7, x8, (some b33), (some b32), nilSl⟩ : G_store_Store) fun b34 w66 => (sh_f10_j1 Q b34 0 w66))) w63) /\ (CallsR PP n_f18 #[t_api_Config.val x9, .int .u64 1] (fun v16 w67 => ∃ x24 : G_ledger_State, v16 = t_ledger_State.val x24 /\ (chk t_api_Config w67 b1 0 x5 <| chk t_api_Point w67 b2 0 x7 <| chk t_api_Point w67 b2 0 x8 <| mkm w67 fun b35 w68 => chk t_api_Config w68 b1 0 x5 <| chk t_api_Point w68 b2 0 x7 <| chk t_api_Point w68 b2 0 x8 <| mset t_ledger_State w68 (some b35) 1 x24 fun w69 => chk t_api_Config w69 b1 0 x5 <| chk t_api_Point w69 b2 0 x7 <| chk t_api_Point w69 b2 0 x8 <| al t_store_Store 43 w69 (⟨x5, x10, x22, 0, 0, x7, x8, (some b35), (some b32), nilSl⟩ : G_store_Store) fun b36 w70 => (sh_f10_j1 Q b36 0 w70))) w62)))) w61) /\ (mkm w61 fun b37 w71 => chk t_api_Config w71 b1 0 x5 <| chk tSl w71 b1 0 x6 <| chk t_api_Point w71 b2 0 x7 <| chk t_api_Point w71 b2 0 x8 <| chk t_api_Config w71 b1 0 x9 <| CallsR PP n_f30 #[.int .i64 (x6.len : Int)] (fun v17 w72 => ∃ x25 : Sl, v17 = .slice x25.a x25.len x25.cap /\ (chk t_api_Config w72 b1 0 x5 <| chk t_api_Point w72 b2 0 x7 <| chk t_api_Point w72 b2 0 x8 <| chk t_api_Config w72 b1 0 x9 <| CallsR PP n_f18 #[t_api_Config.val x9, .int .u64 1] (fun v18 w73 => ∃ x26 : G_ledger_State, v18 = t_ledger_State.val x26 /\ (chk t_api_Config w73 b1 0 x5 <| chk t_api_Point w73 b2 0 x7 <| chk t_api_Point w73 b2 0 x8 <| mset t_ledger_State w73 (some b37) 1 x26 fun w74 => chk t_api_Config w74 b1 0 x5 <| chk t_api_Point w74 b2 0 x7 <| chk t_api_Point w74 b2 0 x8 <| al t_store_Store 43 w74 (⟨x5, x10, x25, 0, 0, x7, x8, (some b37), (some b32), nilSl⟩ : G_store_Store) fun b38 w75 => (sh_f10_j1 Q b38 0 w75))) w72)) w71)))))) w7) /\ (mkm w7 fun b39 w76 => chk t_api_Config w76 b1 0 x5 <| chk tSl w76 b1 0 x6 <| chk t_api_Point w76 b2 0 x7 <| chk t_api_Point w76 b2 0 x8 <| chk t_api_Config w76 b1 0 x9 <| ((CallsR PP n_f29 #[.int .u64 1, .int .i64 0] (fun v19 w77 => ∃ x27 : Option Addr, v19 = .pointer x27 /\ (chk t_api_Config w77 b1 0 x5 <| chk tSl w77 b1 0 x6 <| chk t_api_Point w77 b2 0 x7 <| chk t_api_Point w77 b2 0 x8 <| chk t_api_Config w77 b1 0 x9 <| ((CallsR PP n_f30 #[.int .i64 (x6.len : Int)] (fun v20 w78 => ∃ x28 : Sl, v20 = .slice x28.a x28.len x28.cap /\ (chk t_api_Config w78 b1 0 x5 <| chk t_api_Point w78 b2 0 x7 <| chk t_api_Point w78 b2 0 x8 <| chk t_api_Config w78 b1 0 x9 <| ((CallsR PP n_f18 #[t_api_Config.val x9, .int .u64 1] (fun v21 w79 => ∃ x29 : G_ledger_State, v21 = t_ledger_State.val x29 /\ (chk t_api_Config w79 b1 0 x5 <| chk t_api_Point w79 b2 0 x7 <| chk t_api_Point w79 b2 0 x8 <| ((mset t_ledger_State w79 (some b39) 1 x29 fun w80 => chk t_api_Config w80 b1 0 x5 <| chk t_api_Point w80 b2 0 x7 <| chk t_api_Point w80 b2 0 x8 <| mkm w80 fun b40 w81 => chk t_api_Config w81 b1 0 x5 <| chk t_api_Point w81 b2 0 x7 <| chk t_api_Point w81 b2 0 x8 <| al t_store_Store 43 w81 (⟨x5, x27, x28, 0, 0, x7, x8, (some b39), (some b40), nilSl⟩ : G_store_Store) fun b41 w82 => (sh_f10_j1 Q b41 0 w82)) /\ (mkm w79 fun b42 w83 => chk t_api_Config w83 b1 0 x5 <| chk t_api_Point w83 b2 0 x7 <| chk t_api_Point w83 b2 0 x8 <| mset t_ledger_State w83 (some b39) 1 x29 fun w84 => chk t_api_Config w84 b1 0 x5 <| chk t_api_Point w84 b2 0 x7 <| chk t_api_Point w84 b2 0 x8 <| al t_store_Store 43 w84 (⟨x5, x27, x28, 0, 0, x7, x8, (some b39), (some b42), nilSl⟩ : G_store_Store) fun b43 w85 => (sh_f10_j1 Q b43 0 w85))))) w78) /\ (mkm w78 fun b44 w86 => chk t_api_Config w86 b1 0 x5 <| chk t_api_Point w86 b2 0 x7 <| chk t_api_Point w86 b2 0 x8 <| chk t_api_Config w86 b1 0 x9 <| CallsR PP n_f18 #[t_api_Config.val x9, .int .u64 1] (fun v22 w87 => ∃ x30 : G_ledger_State, v22 = t_ledger_State.val x30 /\ (chk t_api_Config w87 b1 0 x5 <| chk t_api_Point w87 b2 0 x7 <| chk t_api_Point w87 b2 0 x8 <| mset t_ledger_State w87 (some b39) 1 x30 fun w88 => chk t_api_Config w88 b1 0 x5 <| chk t_api_Point w88 b2 0 x7 <| chk t_api_Point w88 b2 0 x8 <| al t_store_Store 43 w88 (⟨x5, x27, x28, 0, 0, x7, x8, (some b39), (some b44), nilSl⟩ : G_store_Store) fun b45 w89 => (sh_f10_j1 Q b45 0 w89))) w86)))) w77) /\ (mkm w77 fun b46 w90 => chk t_api_Config w90 b1 0 x5 <| chk tSl w90 b1 0 x6 <| chk t_api_Point w90 b2 0 x7 <| chk t_api_Point w90 b2 0 x8 <| chk t_api_Config w90 b1 0 x9 <| CallsR PP n_f30 #[.int .i64 (x6.len : Int)] (fun v23 w91 => ∃ x31 : Sl, v23 = .slice x31.a x31.len x31.cap /\ (chk t_api_Config w91 b1 0 x5 <| chk t_api_Point w91 b2 0 x7 <| chk t_api_Point w91 b2 0 x8 <| chk t_api_Config w91 b1 0 x9 <| CallsR PP n_f18 #[t_api_Config.val x9, .int .u64 1] (fun v24 w92 => ∃ x32 : G_ledger_State, v24 = t_ledger_State.val x32 /\ (chk t_api_Config w92 b1 0 x5 <| chk t_api_Point w92 b2 0 x7 <| chk t_api_Point w92 b2 0 x8 <| mset t_ledger_State w92 (some b39) 1 x32 fun w93 => chk t_api_Config w93 b1 0 x5 <| chk t_api_Point w93 b2 0 x7 <| chk t_api_Point w93 b2 0 x8 <| al t_store_Store 43 w93 (⟨x5, x27, x31, 0, 0, x7, x8, (some b39), (some b46), nilSl⟩ : G_store_Store) fun b47 w94 => (sh_f10_j1 Q b47 0 w94))) w91)) w90)))) w76) /\ (mkm w76 fun b48 w95 => chk t_api_Config w95 b1 0 x5 <| chk tSl w95 b1 0 x6 <| chk t_api_Point w95 b2 0 x7 <| chk t_api_Point w95 b2 0 x8 <| chk t_api_Config w95 b1 0 x9 <| CallsR PP n_f29 #[.int .u64 1, .int .i64 0] (fun v25 w96 => ∃ x33 : Option Addr, v25 = .pointer x33 /\ (chk t_api_Config w96 b1 0 x5 <| chk tSl w96 b1 0 x6 <| chk t_api_Point w96 b2 0 x7 <| chk t_api_Point w96 b2 0 x8 <| chk t_api_Config w96 b1 0 x9 <| CallsR PP n_f30 #[.int .i64 (x6.len : Int)] (fun v26 w97 => ∃ x34 : Sl, v26 = .slice x34.a x34.len x34.cap /\ (chk t_api_Config w97 b1 0 x5 <| chk t_api_Point w97 b2 0 x7 <| chk t_api_Point w97 b2 0 x8 <| chk t_api_Config w97 b1 0 x9 <| CallsR PP n_f18 #[t_api_Config.val x9, .int .u64 1] (fun v27 w98 => ∃ x35 : G_ledger_State, v27 = t_ledger_State.val x35 /\ (chk t_api_Config w98 b1 0 x5 <| chk t_api_Point w98 b2 0 x7 <| chk t_api_Point w98 b2 0 x8 <| mset t_ledger_State w98 (some b39) 1 x35 fun w99 => chk t_api_Config w99 b1 0 x5 <| chk t_api_Point w99 b2 0 x7 <| chk t_api_Point w99 b2 0 x8 <| al t_store_Store 43 w99 (⟨x5, x33, x34, 0, 0, x7, x8, (some b39), (some b48), nilSl⟩ : G_store_Store) fun b49 w100 => (sh_f10_j1 Q b49 0 w100))) w97)) w96)) w95))) /\ (mkm w7 fun b50 w101 => chk t_api_Config w101 b1 0 x5 <| chk tSl w101 b1 0 x6 <| chk t_api_Point w101 b2 0 x7 <| chk t_api_Point w101 b2 0 x8 <| chk t_api_Config w101 b1 0 x9 <| ((CallsR PP n_f29 #[.int .u64 1, .int .i64 0] (fun v28 w102 => ∃ x36 : Option Addr, v28 = .pointer x36 /\ (chk t_api_Config w102 b1 0 x5 <| chk tSl w102 b1 0 x6 <| chk t_api_Point w102 b2 0 x7 <| chk t_api_Point w102 b2 0 x8 <| chk t_api_Config w102 b1 0 x9 <| ((CallsR PP n_f30 #[.int .i64 (x6.len : Int)] (fun v29 w103 => ∃ x37 : Sl, v29 = .slice x37.a x37.len x37.cap /\ (chk t_api_Config w103 b1 0 x5 <| chk t_api_Point w103 b2 0 x7 <| chk t_api_Point w103 b2 0 x8 <| chk t_api_Config w103 b1 0 x9 <| ((mkm w103 fun b51 w104 => chk t_api_Config w104 b1 0 x5 <| chk t_api_Point w104 b2 0 x7 <| chk t_api_Point w104 b2 0 x8 <| chk t_api_Config w104 b1 0 x9 <| CallsR PP n_f18 #[t_api_Config.val x9, .int .u64 1] (fun v30 w105 => ∃ x38 : G_ledger_State, v30 = t_ledger_State.val x38 /\ (chk t_api_Config w105 b1 0 x5 <| chk t_api_Point w105 b2 0 x7 <| chk t_api_Point w105 b2 0 x8 <| mset t_ledger_State w105 (some b51) 1 x38 fun w106 => chk t_api_Config w106 b1 0 x5 <| chk t_api_Point w106 b2 0 x7 <| chk t_api_Point w106 b2 0 x8 <| al t_store_Store 43 w106 (⟨x5, x36, x37, 0, 0, x7, x8, (some b51), (some b50), nilSl⟩ : G_store_Store) fun b52 w107 => (sh_f10_j1 Q b52 0 w107))) w104) /\ (CallsR PP n_f18 #[t_api_Config.val x9, .int .u64 1] (fun v31 w108 => ∃ x39 : G_ledger_State, v31 = t_ledger_State.val x39 /\ (chk t_api_Config w108 b1 0 x5 <| chk t_api_Point w108 b2 0 x7 <| chk t_api_Point w108 b2 0 x8 <| mkm w108 fun b53 w109 => chk t_api_Config w109 b1 0 x5 <| chk t_api_Point w109 b2 0 x7 <| chk t_api_Point w109 b2 0 x8 <| mset t_ledger_State w109 (some b53) 1 x39 fun w110 => chk t_api_Config w110 b1 0 x5 <| chk t_api_Point w110 b2 0 x7 <| chk t_api_Point w110 b2 0 x8 <| al t_store_Store 43 w110 (⟨x5, x36, x37, 0, 0, x7, x8, (some b53), (some b50), nilSl⟩ : G_store_Store) fun b54 w111 => (sh_f10_j1 Q b54 0 w111))) w103)))) w102) /\ (mkm w102 fun b55 w112 => chk t_api_Config w112 b1 0 x5 <| chk tSl w112 b1 0 x6 <| chk t_api_Point w112 b2 0 x7 <| chk t_api_Point w112 b2 0 x8 <| chk t_api_Config w112 b1 0 x9 <| CallsR PP n_f30 #[.int .i64 (x6.len : Int)] (fun v32 w113 => ∃ x40 : Sl, v32 = .slice x40.a x40.len x40.cap /\ (chk t_api_Config w113 b1 0 x5 <| chk t_api_Point w113 b2 0 x7 <| chk t_api_Point w113 b2 0 x8 <| chk t_api_Config w113 b1 0 x9 <| CallsR PP n_f18 #[t_api_Config.val x9, .int .u64 1] (fun v33 w114 => ∃ x41 : G_ledger_State, v33 = t_ledger_State.val x41 /\ (chk t_api_Config w114 b1 0 x5 <| chk t_api_Point w114 b2 0 x7 <| chk t_api_Point w114 b2 0 x8 <| mset t_ledger_State w114 (some b55) 1 x41 fun w115 => chk t_api_Config w115 b1 0 x5 <| chk t_api_Point w115 b2 0 x7 <| chk t_api_Point w115 b2 0 x8 <| al t_store_Store 43 w115 (⟨x5, x36, x40, 0, 0, x7, x8, (some b55), (some b50), nilSl⟩ : G_store_Store) fun b56 w116 => (sh_f10_j1 Q b56 0 w116))) w113)) w112)))) w101) /\ (mkm w101 fun b57 w117 => chk t_api_Config w117 b1 0 x5 <| chk tSl w117 b1 0 x6 <| chk t_api_Point w117 b2 0 x7 <| chk t_api_Point w117 b2 0 x8 <| chk t_api_Config w117 b1 0 x9 <| CallsR PP n_f29 #[.int .u64 1, .int .i64 0] (fun v34 w118 => ∃ x42 : Option Addr, v34 = .pointer x42 /\ (chk t_api_Config w118 b1 0 x5 <| chk tSl w118 b1 0 x6 <| chk t_api_Point w118 b2 0 x7 <| chk t_api_Point w118 b2 0 x8 <| chk t_api_Config w118 b1 0 x9 <| CallsR PP n_f30 #[.int .i64 (x6.len : Int)] (fun v35 w119 => ∃ x43 : Sl, v35 = .slice x43.a x43.len x43.cap /\ (chk t_api_Config w119 b1 0 x5 <| chk t_api_Point w119 b2 0 x7 <| chk t_api_Point w119 b2 0 x8 <| chk t_api_Config w119 b1 0 x9 <| CallsR PP n_f18 #[t_api_Config.val x9, .int .u64 1] (fun v36 w120 => ∃ x44 : G_ledger_State, v36 = t_ledger_State.val x44 /\ (chk t_api_Config w120 b1 0 x5 <| chk t_api_Point w120 b2 0 x7 <| chk t_api_Point w120 b2 0 x8 <| mset t_ledger_State w120 (some b57) 1 x44 fun w121 => chk t_api_Config w121 b1 0 x5 <| chk t_api_Point w121 b2 0 x7 <| chk t_api_Point w121 b2 0 x8 <| al t_store_Store 43 w121 (⟨x5, x42, x43, 0, 0, x7, x8, (some b57), (some b50), nilSl⟩ : G_store_Store) fun b58 w122 => (sh_f10_j1 Q b58 0 w122))) w119)) w118)) w117))))))) w1
theorem so_f10 {a0 : G_api_Config} (Q : QW) (w0 : World) (h : sh_f10 a0 Q w0) : CallsR PP n_f10 #[t_api_Config.val a0] Q w0 := by
 refine callsR_of_WX (args := [t_api_Config.val a0]) Try.func10 rfl Try.ntmps10 nl ?_
 refine WX_seq (WX_region ?_)
 refine op_w (pw_box (v := a0) ty_26 rfl ?_)
 intro b1 w1 hw1 hw2
 replace h := h b1 w1 hw1 hw2
 refine mva (.pointer none) rfl <| mva .nilIface rfl (ops_nil ?_)
 refine WX_seq ?_
 refine WX_seq (WX_region ?_)
 obtain ⟨x1, hx1, h⟩ := h
 refine op_v (pv_ld ty_26 rfl hx1) <| op_w (pw_call co_28 rfl (CallsR.mono h ?_))
 rintro v1 w2 ⟨x2, rfl, h⟩
 refine op_v (pv_not rfl) (ops_nil ?_)
 refine WX_cond (b := (!x2)) rfl (fun hb1 => ?_) (fun hb1 => ?_)
 have h := h.1 hb1
 refine WX_seq (WX_region ?_)
 refine op_v (pv_iface (v := vi 2) ni_94 rfl) <| mva (.pointer none) rfl <| mva (.iface 94 (vi 2)) rfl (ops_nil ?_)
 refine WX_ret ?_
 exact fin_of [.pointer none, .iface 94 (vi 2)] rfl ⟨rfl, ⟨rfl, trivial⟩⟩ h
 have h := h.2 hb1
 refine WX_skip <| WX_seq (WX_region ?_)
 refine op_v (pv_build (cs := t_api_Point.enc (⟨0, 1⟩ : G_api_Point)) (vs := [(1, vu 1)]) rfl (by kernel_rfl)) <| op_w (pw_alloc ty_38 tz_38 ?_)
 intro b2 w3 hw3 hw4
 replace h := h b2 w3 hw3 hw4
 refine op_w (pw_st (x := (⟨0, 1⟩ : G_api_Point)) ty_38 rfl rfl h.1 ?_)
 intro w4 hw5
 replace h := h.2 w4 hw5
 refine ops_nil ?_
 refine WX_seq (WX_region ?_)
 refine op_v (pv_fld fo_26_0 rfl) ?_
 obtain ⟨x3, hx3, h⟩ := h
 refine op_v (pv_ld ty_24 rfl hx3) ?_
 obtain ⟨ol1, ne1, ha1, ha2, ha3, ha4, ha5, h⟩ := h
 refine op_w (pw_append (s := nilSl) (r := x3) eo_24 is_24 rfl rfl ha1 ha2 ha3 ha4 ha5 ?_)
 intro x4 w5 ha6
 replace h := h x4 w5 ha6
 refine op_v (pv_fld fo_26_0 rfl) <| op_w (pw_st (x := x4) ty_24 rfl rfl h.1 ?_)
 intro w6 hw6
 replace h := h.2 w6 hw6
 refine ops_nil ?_
 refine WX_join (fun f w123 => ∃ b59 : Nat, ∃ o1 : Nat, Agree f [(2, vp b59 o1), (3, .nilIface)] /\ sh_f10_j1 Q b59 o1 w123) ?_ ?_
 obtain ⟨w7, hw7, h⟩ := dwe h
 obtain ⟨x5, hx5, x6, hx6, x7, hx7, x8, hx8, x9, hx9, h⟩ := h
 refine WX_dr [1,5,8,10,11,13,15] [2,4,12,14,16,17] [⟨[],[2,4],[0,3,6,7,9],[(1,[1],1),(8,[8],69),(13,[13],94)]⟩,⟨[1],[],[0,3,6,7,9],[(5,[5],2),(8,[8],36),(13,[13],54)]⟩,⟨[5,1],[],[0,6,7,9],[(8,[8],3),(10,[10],15),(13,[13],27)]⟩,⟨[8,5,1],[],[0,6,7,9],[(10,[10],4),(13,[13],11)]⟩,⟨[10,8,5,1],[],[0,6,7],[(11,[11,12],5),(13,[13],8)]⟩,⟨[11,10,8,5,1],[12],[0,6,7],[(13,[13,14],6)]⟩,⟨[13,11,10,8,5,1],[14],[0,6,7],[(15,[15,16,17],7)]⟩,⟨[15,13,11,10,8,5,1],[16,17],[],[]⟩,⟨[13,10,8,5,1],[],[0,6,7],[(11,[11,12,14],9)]⟩,⟨[11,13,10,8,5,1],[12,14],[0,6,7],[(15,[15,16,17],10)]⟩,⟨[15,11,13,10,8,5,1],[16,17],[],[]⟩,⟨[13,8,5,1],[],[0,6,7,9],[(10,[10],12)]⟩,⟨[10,13,8,5,1],[],[0,6,7],[(11,[11,12,14],13)]⟩,⟨[11,10,13,8,5,1],[12,14],[0,6,7],[(15,[15,16,17],14)]⟩,⟨[15,11,10,13,8,5,1],[16,17],[],[]⟩,⟨[10,5,1],[],[0,6,7],[(8,[8],16),(13,[13],23)]⟩,⟨[8,10,5,1],[],[0,6,7],[(11,[11,12],17),(13,[13],20)]⟩,⟨[11,8,10,5,1],[12],[0,6,7],[(13,[13,14],18)]⟩,⟨[13,11,8,10,5,1],[14],[0,6,7],[(15,[15,16,17],19)]⟩,⟨[15,13,11,8,10,5,1],[16,17],[],[]⟩,⟨[13,8,10,5,1],[],[0,6,7],[(11,[11,12,14],21)]⟩,⟨[11,13,8,10,5,1],[12,14],[0,6,7],[(15,[15,16,17],22)]⟩,⟨[15,11,13,8,10,5,1],[16,17],[],[]⟩,⟨[13,10,5,1],[],[0,6,7],[(8,[8],24)]⟩,⟨[8,13,10,5,1],[],[0,6,7],[(11,[11,12,14],25)]⟩,⟨[11,8,13,10,5,1],[12,14],[0,6,7],[(15,[15,16,17],26)]⟩,⟨[15,11,8,13,10,5,1],[16,17],[],[]⟩,⟨[13,5,1],[],[0,6,7,9],[(8,[8],28),(10,[10],32)]⟩,⟨[8,13,5,1],[],[0,6,7,9],[(10,[10],29)]⟩,⟨[10,8,13,5,1],[],[0,6,7],[(11,[11,12,14],30)]⟩,⟨[11,10,8,13,5,1],[12,14],[0,6,7],[(15,[15,16,17],31)]⟩,⟨[15,11,10,8,13,5,1],[16,17],[],[]⟩,⟨[10,13,5,1],[],[0,6,7],[(8,[8],33)]⟩,⟨[8,10,13,5,1],[],[0,6,7],[(11,[11,12,14],34)]⟩,⟨[11,8,10,13,5,1],[12,14],[0,6,7],[(15,[15,16,17],35)]⟩,⟨[15,11,8,10,13,5,1],[16,17],[],[]⟩,⟨[8,1],[],[0,3,6,7,9],[(5,[5],37),(13,[13],49)]⟩,⟨[5,8,1],[],[0,6,7,9],[(10,[10],38),(13,[13],45)]⟩,⟨[10,5,8,1],[],[0,6,7],[(11,[11,12],39),(13,[13],42)]⟩,⟨[11,10,5,8,1],[12],[0,6,7],[(13,[13,14],40)]⟩,⟨[13,11,10,5,8,1],[14],[0,6,7],[(15,[15,16,17],41)]⟩,⟨[15,13,11,10,5,8,1],[16,17],[],[]⟩,⟨[13,10,5,8,1],[],[0,6,7],[(11,[11,12,14],43)]⟩,⟨[11,13,10,5,8,1],[12,14],[0,6,7],[(15,[15,16,17],44)]⟩,⟨[15,11,13,10,5,8,1],[16,17],[],[]⟩,⟨[13,5,8,1],[],[0,6,7,9],[(10,[10],46)]⟩,⟨[10,13,5,8,1],[],[0,6,7],[(11,[11,12,14],47)]⟩,⟨[11,10,13,5,8,1],[12,14],[0,6,7],[(15,[15,16,17],48)]⟩,⟨[15,11,10,13,5,8,1],[16,17],[],[]⟩,⟨[13,8,1],[],[0,3,6,7,9],[(5,[5],50)]⟩,⟨[5,13,8,1],[],[0,6,7,9],[(10,[10],51)]⟩,⟨[10,5,13,8,1],[],[0,6,7],[(11,[11,12,14],52)]⟩,⟨[11,10,5,13,8,1],[12,14],[0,6,7],[(15,[15,16,17],53)]⟩,⟨[15,11,10,5,13,8,1],[16,17],[],[]⟩,⟨[13,1],[],[0,3,6,7,9],[(5,[5],55),(8,[8],64)]⟩,⟨[5,13,1],[],[0,6,7,9],[(8,[8],56),(10,[10],60)]⟩,⟨[8,5,13,1],[],[0,6,7,9],[(10,[10],57)]⟩,⟨[10,8,5,13,1],[],[0,6,7],[(11,[11,12,14],58)]⟩,⟨[11,10,8,5,13,1],[12,14],[0,6,7],[(15,[15,16,17],59)]⟩,⟨[15,11,10,8,5,13,1],[16,17],[],[]⟩,⟨[10,5,13,1],[],[0,6,7],[(8,[8],61)]⟩,⟨[8,10,5,13,1],[],[0,6,7],[(11,[11,12,14],62)]⟩,⟨[11,8,10,5,13,1],[12,14],[0,6,7],[(15,[15,16,17],63)]⟩,⟨[15,11,8,10,5,13,1],[16,17],[],[]⟩,⟨[8,13,1],[],[0,3,6,7,9],[(5,[5],65)]⟩,⟨[5,8,13,1],[],[0,6,7,9],[(10,[10],66)]⟩,⟨[10,5,8,13,1],[],[0,6,7],[(11,[11,12,14],67)]⟩,⟨[11,10,5,8,13,1],[12,14],[0,6,7],[(15,[15,16,17],68)]⟩,⟨[15,11,10,5,8,13,1],[16,17],[],[]⟩,⟨[8],[],[0,3,6,7,9],[(1,[1],70),(13,[13],88)]⟩,⟨[1,8],[],[0,3,6,7,9],[(5,[5],71),(13,[13],83)]⟩,⟨[5,1,8],[],[0,6,7,9],[(10,[10],72),(13,[13],79)]⟩,⟨[10,5,1,8],[],[0,6,7],[(11,[11,12],73),(13,[13],76)]⟩,⟨[11,10,5,1,8],[12],[0,6,7],[(13,[13,14],74)]⟩,⟨[13,11,10,5,1,8],[14],[0,6,7],[(15,[15,16,17],75)]⟩,⟨[15,13,11,10,5,1,8],[16,17],[],[]⟩,⟨[13,10,5,1,8],[],[0,6,7],[(11,[11,12,14],77)]⟩,⟨[11,13,10,5,1,8],[12,14],[0,6,7],[(15,[15,16,17],78)]⟩,⟨[15,11,13,10,5,1,8],[16,17],[],[]⟩,⟨[13,5,1,8],[],[0,6,7,9],[(10,[10],80)]⟩,⟨[10,13,5,1,8],[],[0,6,7],[(11,[11,12,14],81)]⟩,⟨[11,10,13,5,1,8],[12,14],[0,6,7],[(15,[15,16,17],82)]⟩,⟨[15,11,10,13,5,1,8],[16,17],[],[]⟩,⟨[13,1,8],[],[0,3,6,7,9],[(5,[5],84)]⟩,⟨[5,13,1,8],[],[0,6,7,9],[(10,[10],85)]⟩,⟨[10,5,13,1,8],[],[0,6,7],[(11,[11,12,14],86)]⟩,⟨[11,10,5,13,1,8],[12,14],[0,6,7],[(15,[15,16,17],87)]⟩,⟨[15,11,10,5,13,1,8],[16,17],[],[]⟩,⟨[13,8],[],[0,3,6,7,9],[(1,[1],89)]⟩,⟨[1,13,8],[],[0,3,6,7,9],[(5,[5],90)]⟩,⟨[5,1,13,8],[],[0,6,7,9],[(10,[10],91)]⟩,⟨[10,5,1,13,8],[],[0,6,7],[(11,[11,12,14],92)]⟩,⟨[11,10,5,1,13,8],[12,14],[0,6,7],[(15,[15,16,17],93)]⟩,⟨[15,11,10,5,1,13,8],[16,17],[],[]⟩,⟨[13],[],[0,3,6,7,9],[(1,[1],95),(8,[8],110)]⟩,⟨[1,13],[],[0,3,6,7,9],[(5,[5],96),(8,[8],105)]⟩,⟨[5,1,13],[],[0,6,7,9],[(8,[8],97),(10,[10],101)]⟩,⟨[8,5,1,13],[],[0,6,7,9],[(10,[10],98)]⟩,⟨[10,8,5,1,13],[],[0,6,7],[(11,[11,12,14],99)]⟩,⟨[11,10,8,5,1,13],[12,14],[0,6,7],[(15,[15,16,17],100)]⟩,⟨[15,11,10,8,5,1,13],[16,17],[],[]⟩,⟨[10,5,1,13],[],[0,6,7],[(8,[8],102)]⟩,⟨[8,10,5,1,13],[],[0,6,7],[(11,[11,12,14],103)]⟩,⟨[11,8,10,5,1,13],[12,14],[0,6,7],[(15,[15,16,17],104)]⟩,⟨[15,11,8,10,5,1,13],[16,17],[],[]⟩,⟨[8,1,13],[],[0,3,6,7,9],[(5,[5],106)]⟩,⟨[5,8,1,13],[],[0,6,7,9],[(10,[10],107)]⟩,⟨[10,5,8,1,13],[],[0,6,7],[(11,[11,12,14],108)]⟩,⟨[11,10,5,8,1,13],[12,14],[0,6,7],[(15,[15,16,17],109)]⟩,⟨[15,11,10,5,8,1,13],[16,17],[],[]⟩,⟨[8,13],[],[0,3,6,7,9],[(1,[1],111)]⟩,⟨[1,8,13],[],[0,3,6,7,9],[(5,[5],112)]⟩,⟨[5,1,8,13],[],[0,6,7,9],[(10,[10],113)]⟩,⟨[10,5,1,8,13],[],[0,6,7],[(11,[11,12,14],114)]⟩,⟨[11,10,5,1,8,13],[12,14],[0,6,7],[(15,[15,16,17],115)]⟩,⟨[15,11,10,5,1,8,13],[16,17],[],[]⟩] [t_api_Config.val x5, un, vp b1 0, .slice x6.a x6.len x6.cap, vi (x6.len : Int), un, t_api_Point.val x7, t_api_Point.val x8, un, t_api_Config.val x9, un, un, un, un, un, un, un, un] 8 mixed (by kernel_rfl) hw7 ?_
 refine draw_go rfl (pu rfl (pv_fld fo_26_0 rfl) (pu rfl (pv_lenS (s := x6) is_24 rfl) ap0)) (ro rfl (pv_ld ty_26 rfl hx5) (ro rfl (pv_ld ty_24 rfl hx6) (ro rfl (pv_ld ty_38 rfl hx7) (ro rfl (pv_ld ty_38 rfl hx8) (ro rfl (pv_ld ty_26 rfl hx9) ao0))))) rfl ?_
 refine ch_yes rfl rfl ?_ (ch_yes rfl rfl ?_ (ch_yes rfl rfl ?_ ch0))
 replace h := h.1
 refine pw_call co_29 rfl (cm h ?_)
 rintro v2 w8 ⟨x10, rfl, h⟩
 obtain ⟨hc1, hc2, hc3, hc4, hc5, h⟩ := h
 refine nx [] rfl nl rfl ?_
 refine draw_go rfl ap0 (ro rfl (pv_ld ty_26 rfl hc1) (ro rfl (pv_ld ty_24 rfl hc2) (ro rfl (pv_ld ty_38 rfl hc3) (ro rfl (pv_ld ty_38 rfl hc4) (ro rfl (pv_ld ty_26 rfl hc5) ao0))))) rfl ?_
 refine ch_yes rfl rfl ?_ (ch_yes rfl rfl ?_ (ch_yes rfl rfl ?_ ch0))
 replace h := h.1
 refine pw_call co_30 rfl (cm h ?_)
 rintro v3 w9 ⟨x11, rfl, h⟩
 obtain ⟨hc6, hc7, hc8, hc9, h⟩ := h
 refine nx [] rfl nl rfl ?_
 refine draw_go rfl ap0 (ro rfl (pv_ld ty_26 rfl hc6) (ro rfl (pv_ld ty_38 rfl hc7) (ro rfl (pv_ld ty_38 rfl hc8) (ro rfl (pv_ld ty_26 rfl hc9) ao0)))) rfl ?_
 refine ch_yes rfl rfl ?_ (ch_yes rfl rfl ?_ (ch_yes rfl rfl ?_ ch0))
 replace h := h.1
 refine pw_makeMap ?_
 intro b3 w10 hw8 hw9
 replace h := h b3 w10 hw8 hw9
 obtain ⟨hc10, hc11, hc12, hc13, h⟩ := h
 refine nx [] rfl nl rfl ?_
 dsimp only [putV, List.set]
 refine draw_go rfl ap0 (ro rfl (pv_ld ty_26 rfl hc10) (ro rfl (pv_ld ty_38 rfl hc11) (ro rfl (pv_ld ty_38 rfl hc12) (ro rfl (pv_ld ty_26 rfl hc13) ao0)))) rfl ?_
 refine ch_yes rfl rfl ?_ (ch_yes rfl rfl ?_ ch0)
 replace h := h.1
 refine pw_call co_18 rfl (cm h ?_)
 rintro v4 w11 ⟨x12, rfl, h⟩
 obtain ⟨hc14, hc15, hc16, h⟩ := h
 refine nx [] rfl nl rfl ?_
 refine draw_go rfl ap0 (ro rfl (pv_ld ty_26 rfl hc14) (ro rfl (pv_ld ty_38 rfl hc15) (ro rfl (pv_ld ty_38 rfl hc16) ao0))) rfl ?_
 refine ch_yes rfl rfl ?_ (ch_yes rfl rfl ?_ ch0)
 replace h := h.1
 obtain ⟨r1, es1, hr1, hm1, h⟩ := h
 refine pw_mapIns (T := t_ledger_State) (x := x12) mu_39 (congrArg Value.map hr1) rfl rfl hm1 ?_
 intro ob1 ho1
 replace h := h ob1 ho1
 clear ho1
 generalize setB w11 r1 ob1 = w12 at h ⊢
 obtain ⟨hc17, hc18, hc19, h⟩ := h
 refine nx [.map (some b3)] rfl nl rfl ?_
 refine draw_go rfl (pu rfl (pv_move rfl) ap0) (ro rfl (pv_ld ty_26 rfl hc17) (ro rfl (pv_ld ty_38 rfl hc18) (ro rfl (pv_ld ty_38 rfl hc19) ao0))) rfl ?_
 refine cy rfl rfl ?_
 refine pw_makeMap ?_
 intro b4 w13 hw10 hw11
 replace h := h b4 w13 hw10 hw11
 obtain ⟨hc20, hc21, hc22, h⟩ := h
 refine nx [t_store_Store.val (⟨x5, x10, x11, 0, 0, x7, x8, (some b3), (some b4), nilSl⟩ : G_store_Store)] rfl nl rfl ?_
 dsimp only [putV, List.set]
 refine draw_go rfl (pu rfl (pv_build (cs := t_store_Store.enc (⟨x5, x10, x11, 0, 0, x7, x8, (some b3), (some b4), nilSl⟩ : G_store_Store)) (vs := [(0, t_api_Config.val x5), (1, .pointer x10), (2, .slice x11.a x11.len x11.cap), (5, t_api_Point.val x7), (6, t_api_Point.val x8), (7, .map (some b3)), (8, .map (some b4))]) rfl (by kernel_rfl)) ap0) (ro rfl (pv_ld ty_26 rfl hc20) (ro rfl (pv_ld ty_38 rfl hc21) (ro rfl (pv_ld ty_38 rfl hc22) ao0))) rfl ?_
 refine cy rfl rfl ?_
 refine pw_box (v := (⟨x5, x10, x11, 0, 0, x7, x8, (some b3), (some b4), nilSl⟩ : G_store_Store)) ty_43 rfl ?_
 intro b5 w14 hw12 hw13
 replace h := h b5 w14 hw12 hw13
 refine nx [vp b5 0, .nilIface] rfl nl rfl ?_
 refine draw_end rfl (pu rfl (pv_assign rfl) (pu rfl (pv_assign rfl) ap0)) ao0 ?_
 exact ⟨b5, 0, ⟨rfl, rfl, trivial⟩, h⟩
 replace h := h.2
 refine pw_makeMap ?_
 intro b6 w15 hw14 hw15
 replace h := h b6 w15 hw14 hw15
 obtain ⟨hc23, hc24, hc25, h⟩ := h
 refine nx [] rfl nl rfl ?_
 refine draw_go rfl ap0 (ro rfl (pv_ld ty_26 rfl hc23) (ro rfl (pv_ld ty_38 rfl hc24) (ro rfl (pv_ld ty_38 rfl hc25) ao0))) rfl ?_
 refine cy rfl rfl ?_
 obtain ⟨r2, es2, hr2, hm2, h⟩ := h
 refine pw_mapIns (T := t_ledger_State) (x := x12) mu_39 (congrArg Value.map hr2) rfl rfl hm2 ?_
 intro ob2 ho2
 replace h := h ob2 ho2
 clear ho2
 generalize setB w15 r2 ob2 = w16 at h ⊢
 obtain ⟨hc26, hc27, hc28, h⟩ := h
 refine nx [.map (some b3), t_store_Store.val (⟨x5, x10, x11, 0, 0, x7, x8, (some b3), (some b6), nilSl⟩ : G_store_Store)] rfl nl rfl ?_
 dsimp only [putV, List.set]
 refine draw_go rfl (pu rfl (pv_move rfl) (pu rfl (pv_build (cs := t_store_Store.enc (⟨x5, x10, x11, 0, 0, x7, x8, (some b3), (some b6), nilSl⟩ : G_store_Store)) (vs := [(0, t_api_Config.val x5), (1, .pointer x10), (2, .slice x11.a x11.len x11.cap), (5, t_api_Point.val x7), (6, t_api_Point.val x8), (7, .map (some b3)), (8, .map (some b6))]) rfl (by kernel_rfl)) ap0)) (ro rfl (pv_ld ty_26 rfl hc26) (ro rfl (pv_ld ty_38 rfl hc27) (ro rfl (pv_ld ty_38 rfl hc28) ao0))) rfl ?_
 refine cy rfl rfl ?_
 refine pw_box (v := (⟨x5, x10, x11, 0, 0, x7, x8, (some b3), (some b6), nilSl⟩ : G_store_Store)) ty_43 rfl ?_
 intro b7 w17 hw16 hw17
 replace h := h b7 w17 hw16 hw17
 refine nx [vp b7 0, .nilIface] rfl nl rfl ?_
 refine draw_end rfl (pu rfl (pv_assign rfl) (pu rfl (pv_assign rfl) ap0)) ao0 ?_
 exact ⟨b7, 0, ⟨rfl, rfl, trivial⟩, h⟩
 replace h := h.2
 refine pw_makeMap ?_
 intro b8 w18 hw18 hw19
 replace h := h b8 w18 hw18 hw19
 obtain ⟨hc29, hc30, hc31, hc32, h⟩ := h
 refine nx [] rfl nl rfl ?_
 refine draw_go rfl ap0 (ro rfl (pv_ld ty_26 rfl hc29) (ro rfl (pv_ld ty_38 rfl hc30) (ro rfl (pv_ld ty_38 rfl hc31) (ro rfl (pv_ld ty_26 rfl hc32) ao0)))) rfl ?_
 refine cy rfl rfl ?_
 refine pw_call co_18 rfl (cm h ?_)
 rintro v5 w19 ⟨x13, rfl, h⟩
 obtain ⟨hc33, hc34, hc35, h⟩ := h
 refine nx [] rfl nl rfl ?_
 dsimp only [putV, List.set]
 refine draw_go rfl ap0 (ro rfl (pv_ld ty_26 rfl hc33) (ro rfl (pv_ld ty_38 rfl hc34) (ro rfl (pv_ld ty_38 rfl hc35) ao0))) rfl ?_
 refine cy rfl rfl ?_
 obtain ⟨r3, es3, hr3, hm3, h⟩ := h
 refine pw_mapIns (T := t_ledger_State) (x := x13) mu_39 (congrArg Value.map hr3) rfl rfl hm3 ?_
 intro ob3 ho3
 replace h := h ob3 ho3
 clear ho3
 generalize setB w19 r3 ob3 = w20 at h ⊢
 obtain ⟨hc36, hc37, hc38, h⟩ := h
 refine nx [.map (some b3), t_store_Store.val (⟨x5, x10, x11, 0, 0, x7, x8, (some b3), (some b8), nilSl⟩ : G_store_Store)] rfl nl rfl ?_
 dsimp only [putV, List.set]
 refine draw_go rfl (pu rfl (pv_move rfl) (pu rfl (pv_build (cs := t_store_Store.enc (⟨x5, x10, x11, 0, 0, x7, x8, (some b3), (some b8), nilSl⟩ : G_store_Store)) (vs := [(0, t_api_Config.val x5), (1, .pointer x10), (2, .slice x11.a x11.len x11.cap), (5, t_api_Point.val x7), (6, t_api_Point.val x8), (7, .map (some b3)), (8, .map (some b8))]) rfl (by kernel_rfl)) ap0)) (ro rfl (pv_ld ty_26 rfl hc36) (ro rfl (pv_ld ty_38 rfl hc37) (ro rfl (pv_ld ty_38 rfl hc38) ao0))) rfl ?_
 refine cy rfl rfl ?_
 refine pw_box (v := (⟨x5, x10, x11, 0, 0, x7, x8, (some b3), (some b8), nilSl⟩ : G_store_Store)) ty_43 rfl ?_
 intro b9 w21 hw20 hw21
 replace h := h b9 w21 hw20 hw21
 refine nx [vp b9 0, .nilIface] rfl nl rfl ?_
 refine draw_end rfl (pu rfl (pv_assign rfl) (pu rfl (pv_assign rfl) ap0)) ao0 ?_
 exact ⟨b9, 0, ⟨rfl, rfl, trivial⟩, h⟩
 replace h := h.2.1
 refine pw_call co_18 rfl (cm h ?_)
 rintro v6 w22 ⟨x14, rfl, h⟩
 obtain ⟨hc39, hc40, hc41, h⟩ := h
 refine nx [] rfl nl rfl ?_
 dsimp only [putV, List.set]
 refine draw_go rfl ap0 (ro rfl (pv_ld ty_26 rfl hc39) (ro rfl (pv_ld ty_38 rfl hc40) (ro rfl (pv_ld ty_38 rfl hc41) ao0))) rfl ?_
 refine ch_yes rfl rfl ?_ (ch_yes rfl rfl ?_ ch0)
 replace h := h.1
 refine pw_makeMap ?_
 intro b10 w23 hw22 hw23
 replace h := h b10 w23 hw22 hw23
 obtain ⟨hc42, hc43, hc44, h⟩ := h
 refine nx [] rfl nl rfl ?_
 refine draw_go rfl ap0 (ro rfl (pv_ld ty_26 rfl hc42) (ro rfl (pv_ld ty_38 rfl hc43) (ro rfl (pv_ld ty_38 rfl hc44) ao0))) rfl ?_
 refine ch_yes rfl rfl ?_ (ch_yes rfl rfl ?_ ch0)
 replace h := h.1
 obtain ⟨r4, es4, hr4, hm4, h⟩ := h
 refine pw_mapIns (T := t_ledger_State) (x := x14) mu_39 (congrArg Value.map hr4) rfl rfl hm4 ?_
 intro ob4 ho4
 replace h := h ob4 ho4
 clear ho4
 generalize setB w23 r4 ob4 = w24 at h ⊢
 obtain ⟨hc45, hc46, hc47, h⟩ := h
 refine nx [.map (some b10)] rfl nl rfl ?_
 refine draw_go rfl (pu rfl (pv_move rfl) ap0) (ro rfl (pv_ld ty_26 rfl hc45) (ro rfl (pv_ld ty_38 rfl hc46) (ro rfl (pv_ld ty_38 rfl hc47) ao0))) rfl ?_
 refine cy rfl rfl ?_
 refine pw_makeMap ?_
 intro b11 w25 hw24 hw25
 replace h := h b11 w25 hw24 hw25
 obtain ⟨hc48, hc49, hc50, h⟩ := h
 refine nx [t_store_Store.val (⟨x5, x10, x11, 0, 0, x7, x8, (some b10), (some b11), nilSl⟩ : G_store_Store)] rfl nl rfl ?_
 dsimp only [putV, List.set]
 refine draw_go rfl (pu rfl (pv_build (cs := t_store_Store.enc (⟨x5, x10, x11, 0, 0, x7, x8, (some b10), (some b11), nilSl⟩ : G_store_Store)) (vs := [(0, t_api_Config.val x5), (1, .pointer x10), (2, .slice x11.a x11.len x11.cap), (5, t_api_Point.val x7), (6, t_api_Point.val x8), (7, .map (some b10)), (8, .map (some b11))]) rfl (by kernel_rfl)) ap0) (ro rfl (pv_ld ty_26 rfl hc48) (ro rfl (pv_ld ty_38 rfl hc49) (ro rfl (pv_ld ty_38 rfl hc50) ao0))) rfl ?_
 refine cy rfl rfl ?_
 refine pw_box (v := (⟨x5, x10, x11, 0, 0, x7, x8, (some b10), (some b11), nilSl⟩ : G_store_Store)) ty_43 rfl ?_
 intro b12 w26 hw26 hw27
 replace h := h b12 w26 hw26 hw27
 refine nx [vp b12 0, .nilIface] rfl nl rfl ?_
 refine draw_end rfl (pu rfl (pv_assign rfl) (pu rfl (pv_assign rfl) ap0)) ao0 ?_
 exact ⟨b12, 0, ⟨rfl, rfl, trivial⟩, h⟩
 replace h := h.2
 refine pw_makeMap ?_
 intro b13 w27 hw28 hw29
 replace h := h b13 w27 hw28 hw29
 obtain ⟨hc51, hc52, hc53, h⟩ := h
 refine nx [] rfl nl rfl ?_
 refine draw_go rfl ap0 (ro rfl (pv_ld ty_26 rfl hc51) (ro rfl (pv_ld ty_38 rfl hc52) (ro rfl (pv_ld ty_38 rfl hc53) ao0))) rfl ?_
 refine cy rfl rfl ?_
 obtain ⟨r5, es5, hr5, hm5, h⟩ := h
 refine pw_mapIns (T := t_ledger_State) (x := x14) mu_39 (congrArg Value.map hr5) rfl rfl hm5 ?_
 intro ob5 ho5
 replace h := h ob5 ho5
 clear ho5
 generalize setB w27 r5 ob5 = w28 at h ⊢
 obtain ⟨hc54, hc55, hc56, h⟩ := h
 refine nx [.map (some b10), t_store_Store.val (⟨x5, x10, x11, 0, 0, x7, x8, (some b10), (some b13), nilSl⟩ : G_store_Store)] rfl nl rfl ?_
 dsimp only [putV, List.set]
 refine draw_go rfl (pu rfl (pv_move rfl) (pu rfl (pv_build (cs := t_store_Store.enc (⟨x5, x10, x11, 0, 0, x7, x8, (some b10), (some b13), nilSl⟩ : G_store_Store)) (vs := [(0, t_api_Config.val x5), (1, .pointer x10), (2, .slice x11.a x11.len x11.cap), (5, t_api_Point.val x7), (6, t_api_Point.val x8), (7, .map (some b10)), (8, .map (some b13))]) rfl (by kernel_rfl)) ap0)) (ro rfl (pv_ld ty_26 rfl hc54) (ro rfl (pv_ld ty_38 rfl hc55) (ro rfl (pv_ld ty_38 rfl hc56) ao0))) rfl ?_
 refine cy rfl rfl ?_
 refine pw_box (v := (⟨x5, x10, x11, 0, 0, x7, x8, (some b10), (some b13), nilSl⟩ : G_store_Store)) ty_43 rfl ?_
 intro b14 w29 hw30 hw31
 replace h := h b14 w29 hw30 hw31
 refine nx [vp b14 0, .nilIface] rfl nl rfl ?_
 refine draw_end rfl (pu rfl (pv_assign rfl) (pu rfl (pv_assign rfl) ap0)) ao0 ?_
 exact ⟨b14, 0, ⟨rfl, rfl, trivial⟩, h⟩
 replace h := h.2
 refine pw_makeMap ?_
 intro b15 w30 hw32 hw33
 replace h := h b15 w30 hw32 hw33
 obtain ⟨hc57, hc58, hc59, h⟩ := h
 refine nx [] rfl nl rfl ?_
 refine draw_go rfl ap0 (ro rfl (pv_ld ty_26 rfl hc57) (ro rfl (pv_ld ty_38 rfl hc58) (ro rfl (pv_ld ty_38 rfl hc59) ao0))) rfl ?_
 refine cy rfl rfl ?_
 refine pw_makeMap ?_
 intro b16 w31 hw34 hw35
 replace h := h b16 w31 hw34 hw35
 obtain ⟨hc60, hc61, hc62, h⟩ := h
 refine nx [] rfl nl rfl ?_
 dsimp only [putV, List.set]
 refine draw_go rfl ap0 (ro rfl (pv_ld ty_26 rfl hc60) (ro rfl (pv_ld ty_38 rfl hc61) (ro rfl (pv_ld ty_38 rfl hc62) ao0))) rfl ?_
 refine cy rfl rfl ?_
 obtain ⟨r6, es6, hr6, hm6, h⟩ := h
 refine pw_mapIns (T := t_ledger_State) (x := x14) mu_39 (congrArg Value.map hr6) rfl rfl hm6 ?_
 intro ob6 ho6
 replace h := h ob6 ho6
 clear ho6
 generalize setB w31 r6 ob6 = w32 at h ⊢
 obtain ⟨hc63, hc64, hc65, h⟩ := h
 refine nx [.map (some b16), t_store_Store.val (⟨x5, x10, x11, 0, 0, x7, x8, (some b16), (some b15), nilSl⟩ : G_store_Store)] rfl nl rfl ?_
 dsimp only [putV, List.set]
 refine draw_go rfl (pu rfl (pv_move rfl) (pu rfl (pv_build (cs := t_store_Store.enc (⟨x5, x10, x11, 0, 0, x7, x8, (some b16), (some b15), nilSl⟩ : G_store_Store)) (vs := [(0, t_api_Config.val x5), (1, .pointer x10), (2, .slice x11.a x11.len x11.cap), (5, t_api_Point.val x7), (6, t_api_Point.val x8), (7, .map (some b16)), (8, .map (some b15))]) rfl (by kernel_rfl)) ap0)) (ro rfl (pv_ld ty_26 rfl hc63) (ro rfl (pv_ld ty_38 rfl hc64) (ro rfl (pv_ld ty_38 rfl hc65) ao0))) rfl ?_
 refine cy rfl rfl ?_
 refine pw_box (v := (⟨x5, x10, x11, 0, 0, x7, x8, (some b16), (some b15), nilSl⟩ : G_store_Store)) ty_43 rfl ?_
 intro b17 w33 hw36 hw37
 replace h := h b17 w33 hw36 hw37
 refine nx [vp b17 0, .nilIface] rfl nl rfl ?_
 refine draw_end rfl (pu rfl (pv_assign rfl) (pu rfl (pv_assign rfl) ap0)) ao0 ?_
 exact ⟨b17, 0, ⟨rfl, rfl, trivial⟩, h⟩
 replace h := h.2.2
 refine pw_makeMap ?_
 intro b18 w34 hw38 hw39
 replace h := h b18 w34 hw38 hw39
 obtain ⟨hc66, hc67, hc68, hc69, h⟩ := h
 refine nx [] rfl nl rfl ?_
 dsimp only [putV, List.set]
 refine draw_go rfl ap0 (ro rfl (pv_ld ty_26 rfl hc66) (ro rfl (pv_ld ty_38 rfl hc67) (ro rfl (pv_ld ty_38 rfl hc68) (ro rfl (pv_ld ty_26 rfl hc69) ao0)))) rfl ?_
 refine ch_yes rfl rfl ?_ (ch_yes rfl rfl ?_ ch0)
 replace h := h.1
 refine pw_makeMap ?_
 intro b19 w35 hw40 hw41
 replace h := h b19 w35 hw40 hw41
 obtain ⟨hc70, hc71, hc72, hc73, h⟩ := h
 refine nx [] rfl nl rfl ?_
 refine draw_go rfl ap0 (ro rfl (pv_ld ty_26 rfl hc70) (ro rfl (pv_ld ty_38 rfl hc71) (ro rfl (pv_ld ty_38 rfl hc72) (ro rfl (pv_ld ty_26 rfl hc73) ao0)))) rfl ?_
 refine cy rfl rfl ?_
 refine pw_call co_18 rfl (cm h ?_)
 rintro v7 w36 ⟨x15, rfl, h⟩
 obtain ⟨hc74, hc75, hc76, h⟩ := h
 refine nx [] rfl nl rfl ?_
 refine draw_go rfl ap0 (ro rfl (pv_ld ty_26 rfl hc74) (ro rfl (pv_ld ty_38 rfl hc75) (ro rfl (pv_ld ty_38 rfl hc76) ao0))) rfl ?_
 refine cy rfl rfl ?_
 obtain ⟨r7, es7, hr7, hm7, h⟩ := h
 refine pw_mapIns (T := t_ledger_State) (x := x15) mu_39 (congrArg Value.map hr7) rfl rfl hm7 ?_
 intro ob7 ho7
 replace h := h ob7 ho7
 clear ho7
 generalize setB w36 r7 ob7 = w37 at h ⊢
 obtain ⟨hc77, hc78, hc79, h⟩ := h
 refine nx [.map (some b19), t_store_Store.val (⟨x5, x10, x11, 0, 0, x7, x8, (some b19), (some b18), nilSl⟩ : G_store_Store)] rfl nl rfl ?_
 dsimp only [putV, List.set]
 refine draw_go rfl (pu rfl (pv_move rfl) (pu rfl (pv_build (cs := t_store_Store.enc (⟨x5, x10, x11, 0, 0, x7, x8, (some b19), (some b18), nilSl⟩ : G_store_Store)) (vs := [(0, t_api_Config.val x5), (1, .pointer x10), (2, .slice x11.a x11.len x11.cap), (5, t_api_Point.val x7), (6, t_api_Point.val x8), (7, .map (some b19)), (8, .map (some b18))]) rfl (by kernel_rfl)) ap0)) (ro rfl (pv_ld ty_26 rfl hc77) (ro rfl (pv_ld ty_38 rfl hc78) (ro rfl (pv_ld ty_38 rfl hc79) ao0))) rfl ?_
 refine cy rfl rfl ?_
 refine pw_box (v := (⟨x5, x10, x11, 0, 0, x7, x8, (some b19), (some b18), nilSl⟩ : G_store_Store)) ty_43 rfl ?_
 intro b20 w38 hw42 hw43
 replace h := h b20 w38 hw42 hw43
 refine nx [vp b20 0, .nilIface] rfl nl rfl ?_
 refine draw_end rfl (pu rfl (pv_assign rfl) (pu rfl (pv_assign rfl) ap0)) ao0 ?_
 exact ⟨b20, 0, ⟨rfl, rfl, trivial⟩, h⟩
 replace h := h.2
 refine pw_call co_18 rfl (cm h ?_)
 rintro v8 w39 ⟨x16, rfl, h⟩
 obtain ⟨hc80, hc81, hc82, h⟩ := h
 refine nx [] rfl nl rfl ?_
 refine draw_go rfl ap0 (ro rfl (pv_ld ty_26 rfl hc80) (ro rfl (pv_ld ty_38 rfl hc81) (ro rfl (pv_ld ty_38 rfl hc82) ao0))) rfl ?_
 refine cy rfl rfl ?_
 refine pw_makeMap ?_
 intro b21 w40 hw44 hw45
 replace h := h b21 w40 hw44 hw45
 obtain ⟨hc83, hc84, hc85, h⟩ := h
 refine nx [] rfl nl rfl ?_
 dsimp only [putV, List.set]
 refine draw_go rfl ap0 (ro rfl (pv_ld ty_26 rfl hc83) (ro rfl (pv_ld ty_38 rfl hc84) (ro rfl (pv_ld ty_38 rfl hc85) ao0))) rfl ?_
 refine cy rfl rfl ?_
 obtain ⟨r8, es8, hr8, hm8, h⟩ := h
 refine pw_mapIns (T := t_ledger_State) (x := x16) mu_39 (congrArg Value.map hr8) rfl rfl hm8 ?_
 intro ob8 ho8
 replace h := h ob8 ho8
 clear ho8
 generalize setB w40 r8 ob8 = w41 at h ⊢
 obtain ⟨hc86, hc87, hc88, h⟩ := h
 refine nx [.map (some b21), t_store_Store.val (⟨x5, x10, x11, 0, 0, x7, x8, (some b21), (some b18), nilSl⟩ : G_store_Store)] rfl nl rfl ?_
 dsimp only [putV, List.set]
 refine draw_go rfl (pu rfl (pv_move rfl) (pu rfl (pv_build (cs := t_store_Store.enc (⟨x5, x10, x11, 0, 0, x7, x8, (some b21), (some b18), nilSl⟩ : G_store_Store)) (vs := [(0, t_api_Config.val x5), (1, .pointer x10), (2, .slice x11.a x11.len x11.cap), (5, t_api_Point.val x7), (6, t_api_Point.val x8), (7, .map (some b21)), (8, .map (some b18))]) rfl (by kernel_rfl)) ap0)) (ro rfl (pv_ld ty_26 rfl hc86) (ro rfl (pv_ld ty_38 rfl hc87) (ro rfl (pv_ld ty_38 rfl hc88) ao0))) rfl ?_
 refine cy rfl rfl ?_
 refine pw_box (v := (⟨x5, x10, x11, 0, 0, x7, x8, (some b21), (some b18), nilSl⟩ : G_store_Store)) ty_43 rfl ?_
 intro b22 w42 hw46 hw47
 replace h := h b22 w42 hw46 hw47
 refine nx [vp b22 0, .nilIface] rfl nl rfl ?_
 refine draw_end rfl (pu rfl (pv_assign rfl) (pu rfl (pv_assign rfl) ap0)) ao0 ?_
 exact ⟨b22, 0, ⟨rfl, rfl, trivial⟩, h⟩
 replace h := h.2.1
 refine pw_makeMap ?_
 intro b23 w43 hw48 hw49
 replace h := h b23 w43 hw48 hw49
 obtain ⟨hc89, hc90, hc91, hc92, hc93, h⟩ := h
 refine nx [] rfl nl rfl ?_
 dsimp only [putV, List.set]
 refine draw_go rfl ap0 (ro rfl (pv_ld ty_26 rfl hc89) (ro rfl (pv_ld ty_24 rfl hc90) (ro rfl (pv_ld ty_38 rfl hc91) (ro rfl (pv_ld ty_38 rfl hc92) (ro rfl (pv_ld ty_26 rfl hc93) ao0))))) rfl ?_
 refine ch_yes rfl rfl ?_ (ch_yes rfl rfl ?_ ch0)
 replace h := h.1
 refine pw_call co_30 rfl (cm h ?_)
 rintro v9 w44 ⟨x17, rfl, h⟩
 obtain ⟨hc94, hc95, hc96, hc97, h⟩ := h
 refine nx [] rfl nl rfl ?_
 refine draw_go rfl ap0 (ro rfl (pv_ld ty_26 rfl hc94) (ro rfl (pv_ld ty_38 rfl hc95) (ro rfl (pv_ld ty_38 rfl hc96) (ro rfl (pv_ld ty_26 rfl hc97) ao0)))) rfl ?_
 refine ch_yes rfl rfl ?_ (ch_yes rfl rfl ?_ ch0)
 replace h := h.1
 refine pw_call co_18 rfl (cm h ?_)
 rintro v10 w45 ⟨x18, rfl, h⟩
 obtain ⟨hc98, hc99, hc100, h⟩ := h
 refine nx [] rfl nl rfl ?_
 refine draw_go rfl ap0 (ro rfl (pv_ld ty_26 rfl hc98) (ro rfl (pv_ld ty_38 rfl hc99) (ro rfl (pv_ld ty_38 rfl hc100) ao0))) rfl ?_
 refine ch_yes rfl rfl ?_ (ch_yes rfl rfl ?_ ch0)
 replace h := h.1
 obtain ⟨r9, es9, hr9, hm9, h⟩ := h
 refine pw_mapIns (T := t_ledger_State) (x := x18) mu_39 (congrArg Value.map hr9) rfl rfl hm9 ?_
 intro ob9 ho9
 replace h := h ob9 ho9
 clear ho9
 generalize setB w45 r9 ob9 = w46 at h ⊢
 obtain ⟨hc101, hc102, hc103, h⟩ := h
 refine nx [.map (some b23)] rfl nl rfl ?_
 dsimp only [putV, List.set]
 refine draw_go rfl (pu rfl (pv_move rfl) ap0) (ro rfl (pv_ld ty_26 rfl hc101) (ro rfl (pv_ld ty_38 rfl hc102) (ro rfl (pv_ld ty_38 rfl hc103) ao0))) rfl ?_
 refine cy rfl rfl ?_
 refine pw_makeMap ?_
 intro b24 w47 hw50 hw51
 replace h := h b24 w47 hw50 hw51
 obtain ⟨hc104, hc105, hc106, h⟩ := h
 refine nx [t_store_Store.val (⟨x5, x10, x17, 0, 0, x7, x8, (some b23), (some b24), nilSl⟩ : G_store_Store)] rfl nl rfl ?_
 dsimp only [putV, List.set]
 refine draw_go rfl (pu rfl (pv_build (cs := t_store_Store.enc (⟨x5, x10, x17, 0, 0, x7, x8, (some b23), (some b24), nilSl⟩ : G_store_Store)) (vs := [(0, t_api_Config.val x5), (1, .pointer x10), (2, .slice x17.a x17.len x17.cap), (5, t_api_Point.val x7), (6, t_api_Point.val x8), (7, .map (some b23)), (8, .map (some b24))]) rfl (by kernel_rfl)) ap0) (ro rfl (pv_ld ty_26 rfl hc104) (ro rfl (pv_ld ty_38 rfl hc105) (ro rfl (pv_ld ty_38 rfl hc106) ao0))) rfl ?_
 refine cy rfl rfl ?_
 refine pw_box (v := (⟨x5, x10, x17, 0, 0, x7, x8, (some b23), (some b24), nilSl⟩ : G_store_Store)) ty_43 rfl ?_
 intro b25 w48 hw52 hw53
 replace h := h b25 w48 hw52 hw53
 refine nx [vp b25 0, .nilIface] rfl nl rfl ?_
 refine draw_end rfl (pu rfl (pv_assign rfl) (pu rfl (pv_assign rfl) ap0)) ao0 ?_
 exact ⟨b25, 0, ⟨rfl, rfl, trivial⟩, h⟩
 replace h := h.2
 refine pw_makeMap ?_
 intro b26 w49 hw54 hw55
 replace h := h b26 w49 hw54 hw55
 obtain ⟨hc107, hc108, hc109, h⟩ := h
 refine nx [] rfl nl rfl ?_
 dsimp only [putV, List.set]
 refine draw_go rfl ap0 (ro rfl (pv_ld ty_26 rfl hc107) (ro rfl (pv_ld ty_38 rfl hc108) (ro rfl (pv_ld ty_38 rfl hc109) ao0))) rfl ?_
 refine cy rfl rfl ?_
 obtain ⟨r10, es10, hr10, hm10, h⟩ := h
 refine pw_mapIns (T := t_ledger_State) (x := x18) mu_39 (congrArg Value.map hr10) rfl rfl hm10 ?_
 intro ob10 ho10
 replace h := h ob10 ho10
 clear ho10
 generalize setB w49 r10 ob10 = w50 at h ⊢
 obtain ⟨hc110, hc111, hc112, h⟩ := h
 refine nx [.map (some b23), t_store_Store.val (⟨x5, x10, x17, 0, 0, x7, x8, (some b23), (some b26), nilSl⟩ : G_store_Store)] rfl nl rfl ?_
 dsimp only [putV, List.set]
 refine draw_go rfl (pu rfl (pv_move rfl) (pu rfl (pv_build (cs := t_store_Store.enc (⟨x5, x10, x17, 0, 0, x7, x8, (some b23), (some b26), nilSl⟩ : G_store_Store)) (vs := [(0, t_api_Config.val x5), (1, .pointer x10), (2, .slice x17.a x17.len x17.cap), (5, t_api_Point.val x7), (6, t_api_Point.val x8), (7, .map (some b23)), (8, .map (some b26))]) rfl (by kernel_rfl)) ap0)) (ro rfl (pv_ld ty_26 rfl hc110) (ro rfl (pv_ld ty_38 rfl hc111) (ro rfl (pv_ld ty_38 rfl hc112) ao0))) rfl ?_
 refine cy rfl rfl ?_
 refine pw_box (v := (⟨x5, x10, x17, 0, 0, x7, x8, (some b23), (some b26), nilSl⟩ : G_store_Store)) ty_43 rfl ?_
 intro b27 w51 hw56 hw57
 replace h := h b27 w51 hw56 hw57
 refine nx [vp b27 0, .nilIface] rfl nl rfl ?_
 refine draw_end rfl (pu rfl (pv_assign rfl) (pu rfl (pv_assign rfl) ap0)) ao0 ?_
 exact ⟨b27, 0, ⟨rfl, rfl, trivial⟩, h⟩
 replace h := h.2
 refine pw_makeMap ?_
 intro b28 w52 hw58 hw59
 replace h := h b28 w52 hw58 hw59
 obtain ⟨hc113, hc114, hc115, hc116, h⟩ := h
 refine nx [] rfl nl rfl ?_
 dsimp only [putV, List.set]
 refine draw_go rfl ap0 (ro rfl (pv_ld ty_26 rfl hc113) (ro rfl (pv_ld ty_38 rfl hc114) (ro rfl (pv_ld ty_38 rfl hc115) (ro rfl (pv_ld ty_26 rfl hc116) ao0)))) rfl ?_
 refine cy rfl rfl ?_
 refine pw_call co_18 rfl (cm h ?_)
 rintro v11 w53 ⟨x19, rfl, h⟩
 obtain ⟨hc117, hc118, hc119, h⟩ := h
 refine nx [] rfl nl rfl ?_
 refine draw_go rfl ap0 (ro rfl (pv_ld ty_26 rfl hc117) (ro rfl (pv_ld ty_38 rfl hc118) (ro rfl (pv_ld ty_38 rfl hc119) ao0))) rfl ?_
 refine cy rfl rfl ?_
 obtain ⟨r11, es11, hr11, hm11, h⟩ := h
 refine pw_mapIns (T := t_ledger_State) (x := x19) mu_39 (congrArg Value.map hr11) rfl rfl hm11 ?_
 intro ob11 ho11
 replace h := h ob11 ho11
 clear ho11
 generalize setB w53 r11 ob11 = w54 at h ⊢
 obtain ⟨hc120, hc121, hc122, h⟩ := h
 refine nx [.map (some b23), t_store_Store.val (⟨x5, x10, x17, 0, 0, x7, x8, (some b23), (some b28), nilSl⟩ : G_store_Store)] rfl nl rfl ?_
 dsimp only [putV, List.set]
 refine draw_go rfl (pu rfl (pv_move rfl) (pu rfl (pv_build (cs := t_store_Store.enc (⟨x5, x10, x17, 0, 0, x7, x8, (some b23), (some b28), nilSl⟩ : G_store_Store)) (vs := [(0, t_api_Config.val x5), (1, .pointer x10), (2, .slice x17.a x17.len x17.cap), (5, t_api_Point.val x7), (6, t_api_Point.val x8), (7, .map (some b23)), (8, .map (some b28))]) rfl (by kernel_rfl)) ap0)) (ro rfl (pv_ld ty_26 rfl hc120) (ro rfl (pv_ld ty_38 rfl hc121) (ro rfl (pv_ld ty_38 rfl hc122) ao0))) rfl ?_
 refine cy rfl rfl ?_
 refine pw_box (v := (⟨x5, x10, x17, 0, 0, x7, x8, (some b23), (some b28), nilSl⟩ : G_store_Store)) ty_43 rfl ?_
 intro b29 w55 hw60 hw61
 replace h := h b29 w55 hw60 hw61
 refine nx [vp b29 0, .nilIface] rfl nl rfl ?_
 dsimp only [putV, List.set]
 refine draw_end rfl (pu rfl (pv_assign rfl) (pu rfl (pv_assign rfl) ap0)) ao0 ?_
 exact ⟨b29, 0, ⟨rfl, rfl, trivial⟩, h⟩
 replace h := h.2
 refine pw_makeMap ?_
 intro b30 w56 hw62 hw63
 replace h := h b30 w56 hw62 hw63
 obtain ⟨hc123, hc124, hc125, hc126, hc127, h⟩ := h
 refine nx [] rfl nl rfl ?_
 refine draw_go rfl ap0 (ro rfl (pv_ld ty_26 rfl hc123) (ro rfl (pv_ld ty_24 rfl hc124) (ro rfl (pv_ld ty_38 rfl hc125) (ro rfl (pv_ld ty_38 rfl hc126) (ro rfl (pv_ld ty_26 rfl hc127) ao0))))) rfl ?_
 refine cy rfl rfl ?_
 refine pw_call co_30 rfl (cm h ?_)
 rintro v12 w57 ⟨x20, rfl, h⟩
 obtain ⟨hc128, hc129, hc130, hc131, h⟩ := h
 refine nx [] rfl nl rfl ?_
 refine draw_go rfl ap0 (ro rfl (pv_ld ty_26 rfl hc128) (ro rfl (pv_ld ty_38 rfl hc129) (ro rfl (pv_ld ty_38 rfl hc130) (ro rfl (pv_ld ty_26 rfl hc131) ao0)))) rfl ?_
 refine cy rfl rfl ?_
 refine pw_call co_18 rfl (cm h ?_)
 rintro v13 w58 ⟨x21, rfl, h⟩
 obtain ⟨hc132, hc133, hc134, h⟩ := h
 refine nx [] rfl nl rfl ?_
 dsimp only [putV, List.set]
 refine draw_go rfl ap0 (ro rfl (pv_ld ty_26 rfl hc132) (ro rfl (pv_ld ty_38 rfl hc133) (ro rfl (pv_ld ty_38 rfl hc134) ao0))) rfl ?_
 refine cy rfl rfl ?_
 obtain ⟨r12, es12, hr12, hm12, h⟩ := h
 refine pw_mapIns (T := t_ledger_State) (x := x21) mu_39 (congrArg Value.map hr12) rfl rfl hm12 ?_
 intro ob12 ho12
 replace h := h ob12 ho12
 clear ho12
 generalize setB w58 r12 ob12 = w59 at h ⊢
 obtain ⟨hc135, hc136, hc137, h⟩ := h
 refine nx [.map (some b23), t_store_Store.val (⟨x5, x10, x20, 0, 0, x7, x8, (some b23), (some b30), nilSl⟩ : G_store_Store)] rfl nl rfl ?_
 dsimp only [putV, List.set]
 refine draw_go rfl (pu rfl (pv_move rfl) (pu rfl (pv_build (cs := t_store_Store.enc (⟨x5, x10, x20, 0, 0, x7, x8, (some b23), (some b30), nilSl⟩ : G_store_Store)) (vs := [(0, t_api_Config.val x5), (1, .pointer x10), (2, .slice x20.a x20.len x20.cap), (5, t_api_Point.val x7), (6, t_api_Point.val x8), (7, .map (some b23)), (8, .map (some b30))]) rfl (by kernel_rfl)) ap0)) (ro rfl (pv_ld ty_26 rfl hc135) (ro rfl (pv_ld ty_38 rfl hc136) (ro rfl (pv_ld ty_38 rfl hc137) ao0))) rfl ?_
 refine cy rfl rfl ?_
 refine pw_box (v := (⟨x5, x10, x20, 0, 0, x7, x8, (some b23), (some b30), nilSl⟩ : G_store_Store)) ty_43 rfl ?_
 intro b31 w60 hw64 hw65
 replace h := h b31 w60 hw64 hw65
 refine nx [vp b31 0, .nilIface] rfl nl rfl ?_
 refine draw_end rfl (pu rfl (pv_assign rfl) (pu rfl (pv_assign rfl) ap0)) ao0 ?_
 exact ⟨b31, 0, ⟨rfl, rfl, trivial⟩, h⟩
 replace h := h.2.2
 refine pw_makeMap ?_
 intro b32 w61 hw66 hw67
 replace h := h b32 w61 hw66 hw67
 obtain ⟨hc138, hc139, hc140, hc141, hc142, h⟩ := h
 refine nx [] rfl nl rfl ?_
 dsimp only [putV, List.set]
 refine draw_go rfl ap0 (ro rfl (pv_ld ty_26 rfl hc138) (ro rfl (pv_ld ty_24 rfl hc139) (ro rfl (pv_ld ty_38 rfl hc140) (ro rfl (pv_ld ty_38 rfl hc141) (ro rfl (pv_ld ty_26 rfl hc142) ao0))))) rfl ?_
 refine ch_yes rfl rfl ?_ (ch_yes rfl rfl ?_ ch0)
 replace h := h.1
 refine pw_call co_30 rfl (cm h ?_)
 rintro v14 w62 ⟨x22, rfl, h⟩
 obtain ⟨hc143, hc144, hc145, hc146, h⟩ := h
 refine nx [] rfl nl rfl ?_
 refine draw_go rfl ap0 (ro rfl (pv_ld ty_26 rfl hc143) (ro rfl (pv_ld ty_38 rfl hc144) (ro rfl (pv_ld ty_38 rfl hc145) (ro rfl (pv_ld ty_26 rfl hc146) ao0)))) rfl ?_
 refine ch_yes rfl rfl ?_ (ch_yes rfl rfl ?_ ch0)
 replace h := h.1
 refine pw_makeMap ?_
 intro b33 w63 hw68 hw69
 replace h := h b33 w63 hw68 hw69
 obtain ⟨hc147, hc148, hc149, hc150, h⟩ := h
 refine nx [] rfl nl rfl ?_
 refine draw_go rfl ap0 (ro rfl (pv_ld ty_26 rfl hc147) (ro rfl (pv_ld ty_38 rfl hc148) (ro rfl (pv_ld ty_38 rfl hc149) (ro rfl (pv_ld ty_26 rfl hc150) ao0)))) rfl ?_
 refine cy rfl rfl ?_
 refine pw_call co_18 rfl (cm h ?_)
 rintro v15 w64 ⟨x23, rfl, h⟩
 obtain ⟨hc151, hc152, hc153, h⟩ := h
 refine nx [] rfl nl rfl ?_
 dsimp only [putV, List.set]
 refine draw_go rfl ap0 (ro rfl (pv_ld ty_26 rfl hc151) (ro rfl (pv_ld ty_38 rfl hc152) (ro rfl (pv_ld ty_38 rfl hc153) ao0))) rfl ?_
 refine cy rfl rfl ?_
 obtain ⟨r13, es13, hr13, hm13, h⟩ := h
 refine pw_mapIns (T := t_ledger_State) (x := x23) mu_39 (congrArg Value.map hr13) rfl rfl hm13 ?_
 intro ob13 ho13
 replace h := h ob13 ho13
 clear ho13
 generalize setB w64 r13 ob13 = w65 at h ⊢
 obtain ⟨hc154, hc155, hc156, h⟩ := h
 refine nx [.map (some b33), t_store_Store.val (⟨x5, x10, x22, 0, 0, x7, x8, (some b33), (some b32), nilSl⟩ : G_store_Store)] rfl nl rfl ?_
 dsimp only [putV, List.set]
 refine draw_go rfl (pu rfl (pv_move rfl) (pu rfl (pv_build (cs := t_store_Store.enc (⟨x5, x10, x22, 0, 0, x7, x8, (some b33), (some b32), nilSl⟩ : G_store_Store)) (vs := [(0, t_api_Config.val x5), (1, .pointer x10), (2, .slice x22.a x22.len x22.cap), (5, t_api_Point.val x7), (6, t_api_Point.val x8), (7, .map (some b33)), (8, .map (some b32))]) rfl (by kernel_rfl)) ap0)) (ro rfl (pv_ld ty_26 rfl hc154) (ro rfl (pv_ld ty_38 rfl hc155) (ro rfl (pv_ld ty_38 rfl hc156) ao0))) rfl ?_
 refine cy rfl rfl ?_
 refine pw_box (v := (⟨x5, x10, x22, 0, 0, x7, x8, (some b33), (some b32), nilSl⟩ : G_store_Store)) ty_43 rfl ?_
 intro b34 w66 hw70 hw71
 replace h := h b34 w66 hw70 hw71
 refine nx [vp b34 0, .nilIface] rfl nl rfl ?_
 refine draw_end rfl (pu rfl (pv_assign rfl) (pu rfl (pv_assign rfl) ap0)) ao0 ?_
 exact ⟨b34, 0, ⟨rfl, rfl, trivial⟩, h⟩
 replace h := h.2
 refine pw_call co_18 rfl (cm h ?_)
 rintro v16 w67 ⟨x24, rfl, h⟩
 obtain ⟨hc157, hc158, hc159, h⟩ := h
 refine nx [] rfl nl rfl ?_
 dsimp only [putV, List.set]
 refine draw_go rfl ap0 (ro rfl (pv_ld ty_26 rfl hc157) (ro rfl (pv_ld ty_38 rfl hc158) (ro rfl (pv_ld ty_38 rfl hc159) ao0))) rfl ?_
 refine cy rfl rfl ?_
 refine pw_makeMap ?_
 intro b35 w68 hw72 hw73
 replace h := h b35 w68 hw72 hw73
 obtain ⟨hc160, hc161, hc162, h⟩ := h
 refine nx [] rfl nl rfl ?_
 refine draw_go rfl ap0 (ro rfl (pv_ld ty_26 rfl hc160) (ro rfl (pv_ld ty_38 rfl hc161) (ro rfl (pv_ld ty_38 rfl hc162) ao0))) rfl ?_
 refine cy rfl rfl ?_
 obtain ⟨r14, es14, hr14, hm14, h⟩ := h
 refine pw_mapIns (T := t_ledger_State) (x := x24) mu_39 (congrArg Value.map hr14) rfl rfl hm14 ?_
 intro ob14 ho14
 replace h := h ob14 ho14
 clear ho14
 generalize setB w68 r14 ob14 = w69 at h ⊢
 obtain ⟨hc163, hc164, hc165, h⟩ := h
 refine nx [.map (some b35), t_store_Store.val (⟨x5, x10, x22, 0, 0, x7, x8, (some b35), (some b32), nilSl⟩ : G_store_Store)] rfl nl rfl ?_
 dsimp only [putV, List.set]
 refine draw_go rfl (pu rfl (pv_move rfl) (pu rfl (pv_build (cs := t_store_Store.enc (⟨x5, x10, x22, 0, 0, x7, x8, (some b35), (some b32), nilSl⟩ : G_store_Store)) (vs := [(0, t_api_Config.val x5), (1, .pointer x10), (2, .slice x22.a x22.len x22.cap), (5, t_api_Point.val x7), (6, t_api_Point.val x8), (7, .map (some b35)), (8, .map (some b32))]) rfl (by kernel_rfl)) ap0)) (ro rfl (pv_ld ty_26 rfl hc163) (ro rfl (pv_ld ty_38 rfl hc164) (ro rfl (pv_ld ty_38 rfl hc165) ao0))) rfl ?_
 refine cy rfl rfl ?_
 refine pw_box (v := (⟨x5, x10, x22, 0, 0, x7, x8, (some b35), (some b32), nilSl⟩ : G_store_Store)) ty_43 rfl ?_
 intro b36 w70 hw74 hw75
 replace h := h b36 w70 hw74 hw75
 refine nx [vp b36 0, .nilIface] rfl nl rfl ?_
 dsimp only [putV, List.set]
 refine draw_end rfl (pu rfl (pv_assign rfl) (pu rfl (pv_assign rfl) ap0)) ao0 ?_
 exact ⟨b36, 0, ⟨rfl, rfl, trivial⟩, h⟩
 replace h := h.2
 refine pw_makeMap ?_
 intro b37 w71 hw76 hw77
 replace h := h b37 w71 hw76 hw77
 obtain ⟨hc166, hc167, hc168, hc169, hc170, h⟩ := h
 refine nx [] rfl nl rfl ?_
 refine draw_go rfl ap0 (ro rfl (pv_ld ty_26 rfl hc166) (ro rfl (pv_ld ty_24 rfl hc167) (ro rfl (pv_ld ty_38 rfl hc168) (ro rfl (pv_ld ty_38 rfl hc169) (ro rfl (pv_ld ty_26 rfl hc170) ao0))))) rfl ?_
 refine cy rfl rfl ?_
 refine pw_call co_30 rfl (cm h ?_)
 rintro v17 w72 ⟨x25, rfl, h⟩
 obtain ⟨hc171, hc172, hc173, hc174, h⟩ := h
 refine nx [] rfl nl rfl ?_
 refine draw_go rfl ap0 (ro rfl (pv_ld ty_26 rfl hc171) (ro rfl (pv_ld ty_38 rfl hc172) (ro rfl (pv_ld ty_38 rfl hc173) (ro rfl (pv_ld ty_26 rfl hc174) ao0)))) rfl ?_
 refine cy rfl rfl ?_
 refine pw_call co_18 rfl (cm h ?_)
 rintro v18 w73 ⟨x26, rfl, h⟩
 obtain ⟨hc175, hc176, hc177, h⟩ := h
 refine nx [] rfl nl rfl ?_
 dsimp only [putV, List.set]
 refine draw_go rfl ap0 (ro rfl (pv_ld ty_26 rfl hc175) (ro rfl (pv_ld ty_38 rfl hc176) (ro rfl (pv_ld ty_38 rfl hc177) ao0))) rfl ?_
 refine cy rfl rfl ?_
 obtain ⟨r15, es15, hr15, hm15, h⟩ := h
 refine pw_mapIns (T := t_ledger_State) (x := x26) mu_39 (congrArg Value.map hr15) rfl rfl hm15 ?_
 intro ob15 ho15
 replace h := h ob15 ho15
 clear ho15
 generalize setB w73 r15 ob15 = w74 at h ⊢
 obtain ⟨hc178, hc179, hc180, h⟩ := h
 refine nx [.map (some b37), t_store_Store.val (⟨x5, x10, x25, 0, 0, x7, x8, (some b37), (some b32), nilSl⟩ : G_store_Store)] rfl nl rfl ?_
 dsimp only [putV, List.set]
 refine draw_go rfl (pu rfl (pv_move rfl) (pu rfl (pv_build (cs := t_store_Store.enc (⟨x5, x10, x25, 0, 0, x7, x8, (some b37), (some b32), nilSl⟩ : G_store_Store)) (vs := [(0, t_api_Config.val x5), (1, .pointer x10), (2, .slice x25.a x25.len x25.cap), (5, t_api_Point.val x7), (6, t_api_Point.val x8), (7, .map (some b37)), (8, .map (some b32))]) rfl (by kernel_rfl)) ap0)) (ro rfl (pv_ld ty_26 rfl hc178) (ro rfl (pv_ld ty_38 rfl hc179) (ro rfl (pv_ld ty_38 rfl hc180) ao0))) rfl ?_
 refine cy rfl rfl ?_
 refine pw_box (v := (⟨x5, x10, x25, 0, 0, x7, x8, (some b37), (some b32), nilSl⟩ : G_store_Store)) ty_43 rfl ?_
 intro b38 w75 hw78 hw79
 replace h := h b38 w75 hw78 hw79
 refine nx [vp b38 0, .nilIface] rfl nl rfl ?_
 refine draw_end rfl (pu rfl (pv_assign rfl) (pu rfl (pv_assign rfl) ap0)) ao0 ?_
 exact ⟨b38, 0, ⟨rfl, rfl, trivial⟩, h⟩
 replace h := h.2.1
 refine pw_makeMap ?_
 intro b39 w76 hw80 hw81
 replace h := h b39 w76 hw80 hw81
 obtain ⟨hc181, hc182, hc183, hc184, hc185, h⟩ := h
 refine nx [] rfl nl rfl ?_
 dsimp only [putV, List.set]
 refine draw_go rfl ap0 (ro rfl (pv_ld ty_26 rfl hc181) (ro rfl (pv_ld ty_24 rfl hc182) (ro rfl (pv_ld ty_38 rfl hc183) (ro rfl (pv_ld ty_38 rfl hc184) (ro rfl (pv_ld ty_26 rfl hc185) ao0))))) rfl ?_
 refine ch_yes rfl rfl ?_ (ch_yes rfl rfl ?_ ch0)
 replace h := h.1
 refine pw_call co_29 rfl (cm h ?_)
 rintro v19 w77 ⟨x27, rfl, h⟩
 obtain ⟨hc186, hc187, hc188, hc189, hc190, h⟩ := h
 refine nx [] rfl nl rfl ?_
 refine draw_go rfl ap0 (ro rfl (pv_ld ty_26 rfl hc186) (ro rfl (pv_ld ty_24 rfl hc187) (ro rfl (pv_ld ty_38 rfl hc188) (ro rfl (pv_ld ty_38 rfl hc189) (ro rfl (pv_ld ty_26 rfl hc190) ao0))))) rfl ?_
 refine ch_yes rfl rfl ?_ (ch_yes rfl rfl ?_ ch0)
 replace h := h.1
 refine pw_call co_30 rfl (cm h ?_)
 rintro v20 w78 ⟨x28, rfl, h⟩
 obtain ⟨hc191, hc192, hc193, hc194, h⟩ := h
 refine nx [] rfl nl rfl ?_
 refine draw_go rfl ap0 (ro rfl (pv_ld ty_26 rfl hc191) (ro rfl (pv_ld ty_38 rfl hc192) (ro rfl (pv_ld ty_38 rfl hc193) (ro rfl (pv_ld ty_26 rfl hc194) ao0)))) rfl ?_
 refine ch_yes rfl rfl ?_ (ch_yes rfl rfl ?_ ch0)
 replace h := h.1
 refine pw_call co_18 rfl (cm h ?_)
 rintro v21 w79 ⟨x29, rfl, h⟩
 obtain ⟨hc195, hc196, hc197, h⟩ := h
 refine nx [] rfl nl rfl ?_
 dsimp only [putV, List.set]
 refine draw_go rfl ap0 (ro rfl (pv_ld ty_26 rfl hc195) (ro rfl (pv_ld ty_38 rfl hc196) (ro rfl (pv_ld ty_38 rfl hc197) ao0))) rfl ?_
 refine ch_yes rfl rfl ?_ (ch_yes rfl rfl ?_ ch0)
 replace h := h.1
 obtain ⟨r16, es16, hr16, hm16, h⟩ := h
 refine pw_mapIns (T := t_ledger_State) (x := x29) mu_39 (congrArg Value.map hr16) rfl rfl hm16 ?_
 intro ob16 ho16
 replace h := h ob16 ho16
 clear ho16
 generalize setB w79 r16 ob16 = w80 at h ⊢
 obtain ⟨hc198, hc199, hc200, h⟩ := h
 refine nx [.map (some b39)] rfl nl rfl ?_
 refine draw_go rfl (pu rfl (pv_move rfl) ap0) (ro rfl (pv_ld ty_26 rfl hc198) (ro rfl (pv_ld ty_38 rfl hc199) (ro rfl (pv_ld ty_38 rfl hc200) ao0))) rfl ?_
 refine cy rfl rfl ?_
 refine pw_makeMap ?_
 intro b40 w81 hw82 hw83
 replace h := h b40 w81 hw82 hw83
 obtain ⟨hc201, hc202, hc203, h⟩ := h
 refine nx [t_store_Store.val (⟨x5, x27, x28, 0, 0, x7, x8, (some b39), (some b40), nilSl⟩ : G_store_Store)] rfl nl rfl ?_
 dsimp only [putV, List.set]
 refine draw_go rfl (pu rfl (pv_build (cs := t_store_Store.enc (⟨x5, x27, x28, 0, 0, x7, x8, (some b39), (some b40), nilSl⟩ : G_store_Store)) (vs := [(0, t_api_Config.val x5), (1, .pointer x27), (2, .slice x28.a x28.len x28.cap), (5, t_api_Point.val x7), (6, t_api_Point.val x8), (7, .map (some b39)), (8, .map (some b40))]) rfl (by kernel_rfl)) ap0) (ro rfl (pv_ld ty_26 rfl hc201) (ro rfl (pv_ld ty_38 rfl hc202) (ro rfl (pv_ld ty_38 rfl hc203) ao0))) rfl ?_
 refine cy rfl rfl ?_
 refine pw_box (v := (⟨x5, x27, x28, 0, 0, x7, x8, (some b39), (some b40), nilSl⟩ : G_store_Store)) ty_43 rfl ?_
 intro b41 w82 hw84 hw85
 replace h := h b41 w82 hw84 hw85
 refine nx [vp b41 0, .nilIface] rfl nl rfl ?_
 dsimp only [putV, List.set]
 refine draw_end rfl (pu rfl (pv_assign rfl) (pu rfl (pv_assign rfl) ap0)) ao0 ?_
 exact ⟨b41, 0, ⟨rfl, rfl, trivial⟩, h⟩
 replace h := h.2
 refine pw_makeMap ?_
 intro b42 w83 hw86 hw87
 replace h := h b42 w83 hw86 hw87
 obtain ⟨hc204, hc205, hc206, h⟩ := h
 refine nx [] rfl nl rfl ?_
 refine draw_go rfl ap0 (ro rfl (pv_ld ty_26 rfl hc204) (ro rfl (pv_ld ty_38 rfl hc205) (ro rfl (pv_ld ty_38 rfl hc206) ao0))) rfl ?_
 refine cy rfl rfl ?_
 obtain ⟨r17, es17, hr17, hm17, h⟩ := h
 refine pw_mapIns (T := t_ledger_State) (x := x29) mu_39 (congrArg Value.map hr17) rfl rfl hm17 ?_
 intro ob17 ho17
 replace h := h ob17 ho17
 clear ho17
 generalize setB w83 r17 ob17 = w84 at h ⊢
 obtain ⟨hc207, hc208, hc209, h⟩ := h
 refine nx [.map (some b39), t_store_Store.val (⟨x5, x27, x28, 0, 0, x7, x8, (some b39), (some b42), nilSl⟩ : G_store_Store)] rfl nl rfl ?_
 dsimp only [putV, List.set]
 refine draw_go rfl (pu rfl (pv_move rfl) (pu rfl (pv_build (cs := t_store_Store.enc (⟨x5, x27, x28, 0, 0, x7, x8, (some b39), (some b42), nilSl⟩ : G_store_Store)) (vs := [(0, t_api_Config.val x5), (1, .pointer x27), (2, .slice x28.a x28.len x28.cap), (5, t_api_Point.val x7), (6, t_api_Point.val x8), (7, .map (some b39)), (8, .map (some b42))]) rfl (by kernel_rfl)) ap0)) (ro rfl (pv_ld ty_26 rfl hc207) (ro rfl (pv_ld ty_38 rfl hc208) (ro rfl (pv_ld ty_38 rfl hc209) ao0))) rfl ?_
 refine cy rfl rfl ?_
 refine pw_box (v := (⟨x5, x27, x28, 0, 0, x7, x8, (some b39), (some b42), nilSl⟩ : G_store_Store)) ty_43 rfl ?_
 intro b43 w85 hw88 hw89
 replace h := h b43 w85 hw88 hw89
 refine nx [vp b43 0, .nilIface] rfl nl rfl ?_
 dsimp only [putV, List.set]
 refine draw_end rfl (pu rfl (pv_assign rfl) (pu rfl (pv_assign rfl) ap0)) ao0 ?_
 exact ⟨b43, 0, ⟨rfl, rfl, trivial⟩, h⟩
 replace h := h.2
 refine pw_makeMap ?_
 intro b44 w86 hw90 hw91
 replace h := h b44 w86 hw90 hw91
 obtain ⟨hc210, hc211, hc212, hc213, h⟩ := h
 refine nx [] rfl nl rfl ?_
 refine draw_go rfl ap0 (ro rfl (pv_ld ty_26 rfl hc210) (ro rfl (pv_ld ty_38 rfl hc211) (ro rfl (pv_ld ty_38 rfl hc212) (ro rfl (pv_ld ty_26 rfl hc213) ao0)))) rfl ?_
 refine cy rfl rfl ?_
 refine pw_call co_18 rfl (cm h ?_)
 rintro v22 w87 ⟨x30, rfl, h⟩
 obtain ⟨hc214, hc215, hc216, h⟩ := h
 refine nx [] rfl nl rfl ?_
 refine draw_go rfl ap0 (ro rfl (pv_ld ty_26 rfl hc214) (ro rfl (pv_ld ty_38 rfl hc215) (ro rfl (pv_ld ty_38 rfl hc216) ao0))) rfl ?_
 refine cy rfl rfl ?_
 obtain ⟨r18, es18, hr18, hm18, h⟩ := h
 refine pw_mapIns (T := t_ledger_State) (x := x30) mu_39 (congrArg Value.map hr18) rfl rfl hm18 ?_
 intro ob18 ho18
 replace h := h ob18 ho18
 clear ho18
 generalize setB w87 r18 ob18 = w88 at h ⊢
 obtain ⟨hc217, hc218, hc219, h⟩ := h
 refine nx [.map (some b39), t_store_Store.val (⟨x5, x27, x28, 0, 0, x7, x8, (some b39), (some b44), nilSl⟩ : G_store_Store)] rfl nl rfl ?_
 dsimp only [putV, List.set]
 refine draw_go rfl (pu rfl (pv_move rfl) (pu rfl (pv_build (cs := t_store_Store.enc (⟨x5, x27, x28, 0, 0, x7, x8, (some b39), (some b44), nilSl⟩ : G_store_Store)) (vs := [(0, t_api_Config.val x5), (1, .pointer x27), (2, .slice x28.a x28.len x28.cap), (5, t_api_Point.val x7), (6, t_api_Point.val x8), (7, .map (some b39)), (8, .map (some b44))]) rfl (by kernel_rfl)) ap0)) (ro rfl (pv_ld ty_26 rfl hc217) (ro rfl (pv_ld ty_38 rfl hc218) (ro rfl (pv_ld ty_38 rfl hc219) ao0))) rfl ?_
 refine cy rfl rfl ?_
 refine pw_box (v := (⟨x5, x27, x28, 0, 0, x7, x8, (some b39), (some b44), nilSl⟩ : G_store_Store)) ty_43 rfl ?_
 intro b45 w89 hw92 hw93
 replace h := h b45 w89 hw92 hw93
 refine nx [vp b45 0, .nilIface] rfl nl rfl ?_
 refine draw_end rfl (pu rfl (pv_assign rfl) (pu rfl (pv_assign rfl) ap0)) ao0 ?_
 exact ⟨b45, 0, ⟨rfl, rfl, trivial⟩, h⟩
 replace h := h.2
 refine pw_makeMap ?_
 intro b46 w90 hw94 hw95
 replace h := h b46 w90 hw94 hw95
 obtain ⟨hc220, hc221, hc222, hc223, hc224, h⟩ := h
 refine nx [] rfl nl rfl ?_
 refine draw_go rfl ap0 (ro rfl (pv_ld ty_26 rfl hc220) (ro rfl (pv_ld ty_24 rfl hc221) (ro rfl (pv_ld ty_38 rfl hc222) (ro rfl (pv_ld ty_38 rfl hc223) (ro rfl (pv_ld ty_26 rfl hc224) ao0))))) rfl ?_
 refine cy rfl rfl ?_
 refine pw_call co_30 rfl (cm h ?_)
 rintro v23 w91 ⟨x31, rfl, h⟩
 obtain ⟨hc225, hc226, hc227, hc228, h⟩ := h
 refine nx [] rfl nl rfl ?_
 dsimp only [putV, List.set]
 refine draw_go rfl ap0 (ro rfl (pv_ld ty_26 rfl hc225) (ro rfl (pv_ld ty_38 rfl hc226) (ro rfl (pv_ld ty_38 rfl hc227) (ro rfl (pv_ld ty_26 rfl hc228) ao0)))) rfl ?_
 refine cy rfl rfl ?_
 refine pw_call co_18 rfl (cm h ?_)
 rintro v24 w92 ⟨x32, rfl, h⟩
 obtain ⟨hc229, hc230, hc231, h⟩ := h
 refine nx [] rfl nl rfl ?_
 refine draw_go rfl ap0 (ro rfl (pv_ld ty_26 rfl hc229) (ro rfl (pv_ld ty_38 rfl hc230) (ro rfl (pv_ld ty_38 rfl hc231) ao0))) rfl ?_
 refine cy rfl rfl ?_
 obtain ⟨r19, es19, hr19, hm19, h⟩ := h
 refine pw_mapIns (T := t_ledger_State) (x := x32) mu_39 (congrArg Value.map hr19) rfl rfl hm19 ?_
 intro ob19 ho19
 replace h := h ob19 ho19
 clear ho19
 generalize setB w92 r19 ob19 = w93 at h ⊢
 obtain ⟨hc232, hc233, hc234, h⟩ := h
 refine nx [.map (some b39), t_store_Store.val (⟨x5, x27, x31, 0, 0, x7, x8, (some b39), (some b46), nilSl⟩ : G_store_Store)] rfl nl rfl ?_
 dsimp only [putV, List.set]
 refine draw_go rfl (pu rfl (pv_move rfl) (pu rfl (pv_build (cs := t_store_Store.enc (⟨x5, x27, x31, 0, 0, x7, x8, (some b39), (some b46), nilSl⟩ : G_store_Store)) (vs := [(0, t_api_Config.val x5), (1, .pointer x27), (2, .slice x31.a x31.len x31.cap), (5, t_api_Point.val x7), (6, t_api_Point.val x8), (7, .map (some b39)), (8, .map (some b46))]) rfl (by kernel_rfl)) ap0)) (ro rfl (pv_ld ty_26 rfl hc232) (ro rfl (pv_ld ty_38 rfl hc233) (ro rfl (pv_ld ty_38 rfl hc234) ao0))) rfl ?_
 refine cy rfl rfl ?_
 refine pw_box (v := (⟨x5, x27, x31, 0, 0, x7, x8, (some b39), (some b46), nilSl⟩ : G_store_Store)) ty_43 rfl ?_
 intro b47 w94 hw96 hw97
 replace h := h b47 w94 hw96 hw97
 refine nx [vp b47 0, .nilIface] rfl nl rfl ?_
 dsimp only [putV, List.set]
 refine draw_end rfl (pu rfl (pv_assign rfl) (pu rfl (pv_assign rfl) ap0)) ao0 ?_
 exact ⟨b47, 0, ⟨rfl, rfl, trivial⟩, h⟩
 replace h := h.2
 refine pw_makeMap ?_
 intro b48 w95 hw98 hw99
 replace h := h b48 w95 hw98 hw99
 obtain ⟨hc235, hc236, hc237, hc238, hc239, h⟩ := h
 refine nx [] rfl nl rfl ?_
 refine draw_go rfl ap0 (ro rfl (pv_ld ty_26 rfl hc235) (ro rfl (pv_ld ty_24 rfl hc236) (ro rfl (pv_ld ty_38 rfl hc237) (ro rfl (pv_ld ty_38 rfl hc238) (ro rfl (pv_ld ty_26 rfl hc239) ao0))))) rfl ?_
 refine cy rfl rfl ?_
 refine pw_call co_29 rfl (cm h ?_)
 rintro v25 w96 ⟨x33, rfl, h⟩
 obtain ⟨hc240, hc241, hc242, hc243, hc244, h⟩ := h
 refine nx [] rfl nl rfl ?_
 refine draw_go rfl ap0 (ro rfl (pv_ld ty_26 rfl hc240) (ro rfl (pv_ld ty_24 rfl hc241) (ro rfl (pv_ld ty_38 rfl hc242) (ro rfl (pv_ld ty_38 rfl hc243) (ro rfl (pv_ld ty_26 rfl hc244) ao0))))) rfl ?_
 refine cy rfl rfl ?_
 refine pw_call co_30 rfl (cm h ?_)
 rintro v26 w97 ⟨x34, rfl, h⟩
 obtain ⟨hc245, hc246, hc247, hc248, h⟩ := h
 refine nx [] rfl nl rfl ?_
 dsimp only [putV, List.set]
 refine draw_go rfl ap0 (ro rfl (pv_ld ty_26 rfl hc245) (ro rfl (pv_ld ty_38 rfl hc246) (ro rfl (pv_ld ty_38 rfl hc247) (ro rfl (pv_ld ty_26 rfl hc248) ao0)))) rfl ?_
 refine cy rfl rfl ?_
 refine pw_call co_18 rfl (cm h ?_)
 rintro v27 w98 ⟨x35, rfl, h⟩
 obtain ⟨hc249, hc250, hc251, h⟩ := h
 refine nx [] rfl nl rfl ?_
 refine draw_go rfl ap0 (ro rfl (pv_ld ty_26 rfl hc249) (ro rfl (pv_ld ty_38 rfl hc250) (ro rfl (pv_ld ty_38 rfl hc251) ao0))) rfl ?_
 refine cy rfl rfl ?_
 obtain ⟨r20, es20, hr20, hm20, h⟩ := h
 refine pw_mapIns (T := t_ledger_State) (x := x35) mu_39 (congrArg Value.map hr20) rfl rfl hm20 ?_
 intro ob20 ho20
 replace h := h ob20 ho20
 clear ho20
 generalize setB w98 r20 ob20 = w99 at h ⊢
 obtain ⟨hc252, hc253, hc254, h⟩ := h
 refine nx [.map (some b39), t_store_Store.val (⟨x5, x33, x34, 0, 0, x7, x8, (some b39), (some b48), nilSl⟩ : G_store_Store)] rfl nl rfl ?_
 dsimp only [putV, List.set]
 refine draw_go rfl (pu rfl (pv_move rfl) (pu rfl (pv_build (cs := t_store_Store.enc (⟨x5, x33, x34, 0, 0, x7, x8, (some b39), (some b48), nilSl⟩ : G_store_Store)) (vs := [(0, t_api_Config.val x5), (1, .pointer x33), (2, .slice x34.a x34.len x34.cap), (5, t_api_Point.val x7), (6, t_api_Point.val x8), (7, .map (some b39)), (8, .map (some b48))]) rfl (by kernel_rfl)) ap0)) (ro rfl (pv_ld ty_26 rfl hc252) (ro rfl (pv_ld ty_38 rfl hc253) (ro rfl (pv_ld ty_38 rfl hc254) ao0))) rfl ?_
 refine cy rfl rfl ?_
 refine pw_box (v := (⟨x5, x33, x34, 0, 0, x7, x8, (some b39), (some b48), nilSl⟩ : G_store_Store)) ty_43 rfl ?_
 intro b49 w100 hw100 hw101
 replace h := h b49 w100 hw100 hw101
 refine nx [vp b49 0, .nilIface] rfl nl rfl ?_
 dsimp only [putV, List.set]
 refine draw_end rfl (pu rfl (pv_assign rfl) (pu rfl (pv_assign rfl) ap0)) ao0 ?_
 exact ⟨b49, 0, ⟨rfl, rfl, trivial⟩, h⟩
 replace h := h.2.2
 refine pw_makeMap ?_
 intro b50 w101 hw102 hw103
 replace h := h b50 w101 hw102 hw103
 obtain ⟨hc255, hc256, hc257, hc258, hc259, h⟩ := h
 refine nx [] rfl nl rfl ?_
 refine draw_go rfl ap0 (ro rfl (pv_ld ty_26 rfl hc255) (ro rfl (pv_ld ty_24 rfl hc256) (ro rfl (pv_ld ty_38 rfl hc257) (ro rfl (pv_ld ty_38 rfl hc258) (ro rfl (pv_ld ty_26 rfl hc259) ao0))))) rfl ?_
 refine ch_yes rfl rfl ?_ (ch_yes rfl rfl ?_ ch0)
 replace h := h.1
 refine pw_call co_29 rfl (cm h ?_)
 rintro v28 w102 ⟨x36, rfl, h⟩
 obtain ⟨hc260, hc261, hc262, hc263, hc264, h⟩ := h
 refine nx [] rfl nl rfl ?_
 refine draw_go rfl ap0 (ro rfl (pv_ld ty_26 rfl hc260) (ro rfl (pv_ld ty_24 rfl hc261) (ro rfl (pv_ld ty_38 rfl hc262) (ro rfl (pv_ld ty_38 rfl hc263) (ro rfl (pv_ld ty_26 rfl hc264) ao0))))) rfl ?_
 refine ch_yes rfl rfl ?_ (ch_yes rfl rfl ?_ ch0)
 replace h := h.1
 refine pw_call co_30 rfl (cm h ?_)
 rintro v29 w103 ⟨x37, rfl, h⟩
 obtain ⟨hc265, hc266, hc267, hc268, h⟩ := h
 refine nx [] rfl nl rfl ?_
 dsimp only [putV, List.set]
 refine draw_go rfl ap0 (ro rfl (pv_ld ty_26 rfl hc265) (ro rfl (pv_ld ty_38 rfl hc266) (ro rfl (pv_ld ty_38 rfl hc267) (ro rfl (pv_ld ty_26 rfl hc268) ao0)))) rfl ?_
 refine ch_yes rfl rfl ?_ (ch_yes rfl rfl ?_ ch0)
 replace h := h.1
 refine pw_makeMap ?_
 intro b51 w104 hw104 hw105
 replace h := h b51 w104 hw104 hw105
 obtain ⟨hc269, hc270, hc271, hc272, h⟩ := h
 refine nx [] rfl nl rfl ?_
 refine draw_go rfl ap0 (ro rfl (pv_ld ty_26 rfl hc269) (ro rfl (pv_ld ty_38 rfl hc270) (ro rfl (pv_ld ty_38 rfl hc271) (ro rfl (pv_ld ty_26 rfl hc272) ao0)))) rfl ?_
 refine cy rfl rfl ?_
 refine pw_call co_18 rfl (cm h ?_)
 rintro v30 w105 ⟨x38, rfl, h⟩
 obtain ⟨hc273, hc274, hc275, h⟩ := h
 refine nx [] rfl nl rfl ?_
 refine draw_go rfl ap0 (ro rfl (pv_ld ty_26 rfl hc273) (ro rfl (pv_ld ty_38 rfl hc274) (ro rfl (pv_ld ty_38 rfl hc275) ao0))) rfl ?_
 refine cy rfl rfl ?_
 obtain ⟨r21, es21, hr21, hm21, h⟩ := h
 refine pw_mapIns (T := t_ledger_State) (x := x38) mu_39 (congrArg Value.map hr21) rfl rfl hm21 ?_
 intro ob21 ho21
 replace h := h ob21 ho21
 clear ho21
 generalize setB w105 r21 ob21 = w106 at h ⊢
 obtain ⟨hc276, hc277, hc278, h⟩ := h
 refine nx [.map (some b51), t_store_Store.val (⟨x5, x36, x37, 0, 0, x7, x8, (some b51), (some b50), nilSl⟩ : G_store_Store)] rfl nl rfl ?_
 dsimp only [putV, List.set]
 refine draw_go rfl (pu rfl (pv_move rfl) (pu rfl (pv_build (cs := t_store_Store.enc (⟨x5, x36, x37, 0, 0, x7, x8, (some b51), (some b50), nilSl⟩ : G_store_Store)) (vs := [(0, t_api_Config.val x5), (1, .pointer x36), (2, .slice x37.a x37.len x37.cap), (5, t_api_Point.val x7), (6, t_api_Point.val x8), (7, .map (some b51)), (8, .map (some b50))]) rfl (by kernel_rfl)) ap0)) (ro rfl (pv_ld ty_26 rfl hc276) (ro rfl (pv_ld ty_38 rfl hc277) (ro rfl (pv_ld ty_38 rfl hc278) ao0))) rfl ?_
 refine cy rfl rfl ?_
 refine pw_box (v := (⟨x5, x36, x37, 0, 0, x7, x8, (some b51), (some b50), nilSl⟩ : G_store_Store)) ty_43 rfl ?_
 intro b52 w107 hw106 hw107
 replace h := h b52 w107 hw106 hw107
 refine nx [vp b52 0, .nilIface] rfl nl rfl ?_
 refine draw_end rfl (pu rfl (pv_assign rfl) (pu rfl (pv_assign rfl) ap0)) ao0 ?_
 exact ⟨b52, 0, ⟨rfl, rfl, trivial⟩, h⟩
 replace h := h.2
 refine pw_call co_18 rfl (cm h ?_)
 rintro v31 w108 ⟨x39, rfl, h⟩
 obtain ⟨hc279, hc280, hc281, h⟩ := h
 refine nx [] rfl nl rfl ?_
 refine draw_go rfl ap0 (ro rfl (pv_ld ty_26 rfl hc279) (ro rfl (pv_ld ty_38 rfl hc280) (ro rfl (pv_ld ty_38 rfl hc281) ao0))) rfl ?_
 refine cy rfl rfl ?_
 refine pw_makeMap ?_
 intro b53 w109 hw108 hw109
 replace h := h b53 w109 hw108 hw109
 obtain ⟨hc282, hc283, hc284, h⟩ := h
 refine nx [] rfl nl rfl ?_
 dsimp only [putV, List.set]
 refine draw_go rfl ap0 (ro rfl (pv_ld ty_26 rfl hc282) (ro rfl (pv_ld ty_38 rfl hc283) (ro rfl (pv_ld ty_38 rfl hc284) ao0))) rfl ?_
 refine cy rfl rfl ?_
 obtain ⟨r22, es22, hr22, hm22, h⟩ := h
 refine pw_mapIns (T := t_ledger_State) (x := x39) mu_39 (congrArg Value.map hr22) rfl rfl hm22 ?_
 intro ob22 ho22
 replace h := h ob22 ho22
 clear ho22
 generalize setB w109 r22 ob22 = w110 at h ⊢
 obtain ⟨hc285, hc286, hc287, h⟩ := h
 refine nx [.map (some b53), t_store_Store.val (⟨x5, x36, x37, 0, 0, x7, x8, (some b53), (some b50), nilSl⟩ : G_store_Store)] rfl nl rfl ?_
 dsimp only [putV, List.set]
 refine draw_go rfl (pu rfl (pv_move rfl) (pu rfl (pv_build (cs := t_store_Store.enc (⟨x5, x36, x37, 0, 0, x7, x8, (some b53), (some b50), nilSl⟩ : G_store_Store)) (vs := [(0, t_api_Config.val x5), (1, .pointer x36), (2, .slice x37.a x37.len x37.cap), (5, t_api_Point.val x7), (6, t_api_Point.val x8), (7, .map (some b53)), (8, .map (some b50))]) rfl (by kernel_rfl)) ap0)) (ro rfl (pv_ld ty_26 rfl hc285) (ro rfl (pv_ld ty_38 rfl hc286) (ro rfl (pv_ld ty_38 rfl hc287) ao0))) rfl ?_
 refine cy rfl rfl ?_
 refine pw_box (v := (⟨x5, x36, x37, 0, 0, x7, x8, (some b53), (some b50), nilSl⟩ : G_store_Store)) ty_43 rfl ?_
 intro b54 w111 hw110 hw111
 replace h := h b54 w111 hw110 hw111
 refine nx [vp b54 0, .nilIface] rfl nl rfl ?_
 refine draw_end rfl (pu rfl (pv_assign rfl) (pu rfl (pv_assign rfl) ap0)) ao0 ?_
 exact ⟨b54, 0, ⟨rfl, rfl, trivial⟩, h⟩
 replace h := h.2
 refine pw_makeMap ?_
 intro b55 w112 hw112 hw113
 replace h := h b55 w112 hw112 hw113
 obtain ⟨hc288, hc289, hc290, hc291, hc292, h⟩ := h
 refine nx [] rfl nl rfl ?_
 dsimp only [putV, List.set]
 refine draw_go rfl ap0 (ro rfl (pv_ld ty_26 rfl hc288) (ro rfl (pv_ld ty_24 rfl hc289) (ro rfl (pv_ld ty_38 rfl hc290) (ro rfl (pv_ld ty_38 rfl hc291) (ro rfl (pv_ld ty_26 rfl hc292) ao0))))) rfl ?_
 refine cy rfl rfl ?_
 refine pw_call co_30 rfl (cm h ?_)
 rintro v32 w113 ⟨x40, rfl, h⟩
 obtain ⟨hc293, hc294, hc295, hc296, h⟩ := h
 refine nx [] rfl nl rfl ?_
 refine draw_go rfl ap0 (ro rfl (pv_ld ty_26 rfl hc293) (ro rfl (pv_ld ty_38 rfl hc294) (ro rfl (pv_ld ty_38 rfl hc295) (ro rfl (pv_ld ty_26 rfl hc296) ao0)))) rfl ?_
 refine cy rfl rfl ?_
 refine pw_call co_18 rfl (cm h ?_)
 rintro v33 w114 ⟨x41, rfl, h⟩
 obtain ⟨hc297, hc298, hc299, h⟩ := h
 refine nx [] rfl nl rfl ?_
 refine draw_go rfl ap0 (ro rfl (pv_ld ty_26 rfl hc297) (ro rfl (pv_ld ty_38 rfl hc298) (ro rfl (pv_ld ty_38 rfl hc299) ao0))) rfl ?_
 refine cy rfl rfl ?_
 obtain ⟨r23, es23, hr23, hm23, h⟩ := h
 refine pw_mapIns (T := t_ledger_State) (x := x41) mu_39 (congrArg Value.map hr23) rfl rfl hm23 ?_
 intro ob23 ho23
 replace h := h ob23 ho23
 clear ho23
 generalize setB w114 r23 ob23 = w115 at h ⊢
 obtain ⟨hc300, hc301, hc302, h⟩ := h
 refine nx [.map (some b55), t_store_Store.val (⟨x5, x36, x40, 0, 0, x7, x8, (some b55), (some b50), nilSl⟩ : G_store_Store)] rfl nl rfl ?_
 dsimp only [putV, List.set]
 refine draw_go rfl (pu rfl (pv_move rfl) (pu rfl (pv_build (cs := t_store_Store.enc (⟨x5, x36, x40, 0, 0, x7, x8, (some b55), (some b50), nilSl⟩ : G_store_Store)) (vs := [(0, t_api_Config.val x5), (1, .pointer x36), (2, .slice x40.a x40.len x40.cap), (5, t_api_Point.val x7), (6, t_api_Point.val x8), (7, .map (some b55)), (8, .map (some b50))]) rfl (by kernel_rfl)) ap0)) (ro rfl (pv_ld ty_26 rfl hc300) (ro rfl (pv_ld ty_38 rfl hc301) (ro rfl (pv_ld ty_38 rfl hc302) ao0))) rfl ?_
 refine cy rfl rfl ?_
 refine pw_box (v := (⟨x5, x36, x40, 0, 0, x7, x8, (some b55), (some b50), nilSl⟩ : G_store_Store)) ty_43 rfl ?_
 intro b56 w116 hw114 hw115
 replace h := h b56 w116 hw114 hw115
 refine nx [vp b56 0, .nilIface] rfl nl rfl ?_
 refine draw_end rfl (pu rfl (pv_assign rfl) (pu rfl (pv_assign rfl) ap0)) ao0 ?_
 exact ⟨b56, 0, ⟨rfl, rfl, trivial⟩, h⟩
 replace h := h.2
 refine pw_makeMap ?_
 intro b57 w117 hw116 hw117
 replace h := h b57 w117 hw116 hw117
 obtain ⟨hc303, hc304, hc305, hc306, hc307, h⟩ := h
 refine nx [] rfl nl rfl ?_
 refine draw_go rfl ap0 (ro rfl (pv_ld ty_26 rfl hc303) (ro rfl (pv_ld ty_24 rfl hc304) (ro rfl (pv_ld ty_38 rfl hc305) (ro rfl (pv_ld ty_38 rfl hc306) (ro rfl (pv_ld ty_26 rfl hc307) ao0))))) rfl ?_
 refine cy rfl rfl ?_
 refine pw_call co_29 rfl (cm h ?_)
 rintro v34 w118 ⟨x42, rfl, h⟩
 obtain ⟨hc308, hc309, hc310, hc311, hc312, h⟩ := h
 refine nx [] rfl nl rfl ?_
 dsimp only [putV, List.set]
 refine draw_go rfl ap0 (ro rfl (pv_ld ty_26 rfl hc308) (ro rfl (pv_ld ty_24 rfl hc309) (ro rfl (pv_ld ty_38 rfl hc310) (ro rfl (pv_ld ty_38 rfl hc311) (ro rfl (pv_ld ty_26 rfl hc312) ao0))))) rfl ?_
 refine cy rfl rfl ?_
 refine pw_call co_30 rfl (cm h ?_)
 rintro v35 w119 ⟨x43, rfl, h⟩
 obtain ⟨hc313, hc314, hc315, hc316, h⟩ := h
 refine nx [] rfl nl rfl ?_
 refine draw_go rfl ap0 (ro rfl (pv_ld ty_26 rfl hc313) (ro rfl (pv_ld ty_38 rfl hc314) (ro rfl (pv_ld ty_38 rfl hc315) (ro rfl (pv_ld ty_26 rfl hc316) ao0)))) rfl ?_
 refine cy rfl rfl ?_
 refine pw_call co_18 rfl (cm h ?_)
 rintro v36 w120 ⟨x44, rfl, h⟩
 obtain ⟨hc317, hc318, hc319, h⟩ := h
 refine nx [] rfl nl rfl ?_
 refine draw_go rfl ap0 (ro rfl (pv_ld ty_26 rfl hc317) (ro rfl (pv_ld ty_38 rfl hc318) (ro rfl (pv_ld ty_38 rfl hc319) ao0))) rfl ?_
 refine cy rfl rfl ?_
 obtain ⟨r24, es24, hr24, hm24, h⟩ := h
 refine pw_mapIns (T := t_ledger_State) (x := x44) mu_39 (congrArg Value.map hr24) rfl rfl hm24 ?_
 intro ob24 ho24
 replace h := h ob24 ho24
 clear ho24
 generalize setB w120 r24 ob24 = w121 at h ⊢
 obtain ⟨hc320, hc321, hc322, h⟩ := h
 refine nx [.map (some b57), t_store_Store.val (⟨x5, x42, x43, 0, 0, x7, x8, (some b57), (some b50), nilSl⟩ : G_store_Store)] rfl nl rfl ?_
 dsimp only [putV, List.set]
 refine draw_go rfl (pu rfl (pv_move rfl) (pu rfl (pv_build (cs := t_store_Store.enc (⟨x5, x42, x43, 0, 0, x7, x8, (some b57), (some b50), nilSl⟩ : G_store_Store)) (vs := [(0, t_api_Config.val x5), (1, .pointer x42), (2, .slice x43.a x43.len x43.cap), (5, t_api_Point.val x7), (6, t_api_Point.val x8), (7, .map (some b57)), (8, .map (some b50))]) rfl (by kernel_rfl)) ap0)) (ro rfl (pv_ld ty_26 rfl hc320) (ro rfl (pv_ld ty_38 rfl hc321) (ro rfl (pv_ld ty_38 rfl hc322) ao0))) rfl ?_
 refine cy rfl rfl ?_
 refine pw_box (v := (⟨x5, x42, x43, 0, 0, x7, x8, (some b57), (some b50), nilSl⟩ : G_store_Store)) ty_43 rfl ?_
 intro b58 w122 hw118 hw119
 replace h := h b58 w122 hw118 hw119
 refine nx [vp b58 0, .nilIface] rfl nl rfl ?_
 refine draw_end rfl (pu rfl (pv_assign rfl) (pu rfl (pv_assign rfl) ap0)) ao0 ?_
 exact ⟨b58, 0, ⟨rfl, rfl, trivial⟩, h⟩
 rintro f w123 ⟨b59, o1, ha, h⟩
 obtain ⟨g1, rfl⟩ := canon ha
 refine WX_ret ?_
 exact fin_of [vp b59 o1, .nilIface] rfl ⟨rfl, ⟨rfl, trivial⟩⟩ h
end Go.Proofs.Ytdefmgkicdhmkaa
