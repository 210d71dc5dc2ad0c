/- Closed facts on this dump: its types, its functions (printed by gen.py). -/
import Derived.Test.YtgaihhimkodmmaaDoorProg
import Derived.Test.YtgaihhimkodmmaaDoorFyY
namespace Go.Proofs.YtgaihhimkodmmaaDoor
open Go.Fy
theorem ty3 : tyOf Tryd.prog 3 = some (false, 1) := by kernel_rfl
theorem ty4 : tyOf Tryd.prog 4 = some (false, 1) := by kernel_rfl
theorem ty5 : tyOf Tryd.prog 5 = some (false, 1) := by kernel_rfl
theorem ty9 : tyOf Tryd.prog 9 = some (false, 1) := by kernel_rfl
theorem ty23 : tyOf Tryd.prog 23 = some (true, 3) := by kernel_rfl
theorem ty24 : tyOf Tryd.prog 24 = some (false, 1) := by kernel_rfl
theorem ty26 : tyOf Tryd.prog 26 = some (true, 10) := by kernel_rfl
theorem ty29 : tyOf Tryd.prog 29 = some (false, 1) := by kernel_rfl
theorem ty36 : tyOf Tryd.prog 36 = some (false, 1) := by kernel_rfl
theorem ty42 : tyOf Tryd.prog 42 = some (false, 1) := by kernel_rfl
theorem ty43 : tyOf Tryd.prog 43 = some (false, 1) := by kernel_rfl
theorem ty45 : tyOf Tryd.prog 45 = some (true, 8) := by kernel_rfl
theorem ty48 : tyOf Tryd.prog 48 = some (false, 1) := by kernel_rfl
theorem ty51 : tyOf Tryd.prog 51 = some (false, 1) := by kernel_rfl
theorem ty53 : tyOf Tryd.prog 53 = some (true, 7) := by kernel_rfl
theorem ty55 : tyOf Tryd.prog 55 = some (true, 8) := by kernel_rfl
theorem ty63 : tyOf Tryd.prog 63 = some (true, 2) := by kernel_rfl
theorem ty73 : tyOf Tryd.prog 73 = some (true, 8) := by kernel_rfl
theorem ty74 : tyOf Tryd.prog 74 = some (true, 7) := by kernel_rfl
theorem ty76 : tyOf Tryd.prog 76 = some (true, 8) := by kernel_rfl
theorem ty78 : tyOf Tryd.prog 78 = some (true, 27) := by kernel_rfl
theorem ty97 : tyOf Tryd.prog 97 = some (true, 6) := by kernel_rfl
theorem ty174 : tyOf Tryd.prog 174 = some (true, 3) := by kernel_rfl
theorem ty178 : tyOf Tryd.prog 178 = some (true, 2) := by kernel_rfl
theorem ty197 : tyOf Tryd.prog 197 = some (false, 1) := by kernel_rfl
theorem ty201 : tyOf Tryd.prog 201 = some (true, 2) := by kernel_rfl
theorem ty242 : tyOf Tryd.prog 242 = some (true, 256) := by kernel_rfl
theorem fld23_0 : fldOf Tryd.prog 23 0 = some (0, 1, false) := by kernel_rfl
theorem fld23_1 : fldOf Tryd.prog 23 1 = some (1, 1, false) := by kernel_rfl
theorem fld23_2 : fldOf Tryd.prog 23 2 = some (2, 1, false) := by kernel_rfl
theorem fld26_0 : fldOf Tryd.prog 26 0 = some (0, 1, false) := by kernel_rfl
theorem fld26_1 : fldOf Tryd.prog 26 1 = some (1, 1, false) := by kernel_rfl
theorem fld26_2 : fldOf Tryd.prog 26 2 = some (2, 3, true) := by kernel_rfl
theorem fld26_3 : fldOf Tryd.prog 26 3 = some (5, 1, false) := by kernel_rfl
theorem fld26_4 : fldOf Tryd.prog 26 4 = some (6, 1, false) := by kernel_rfl
theorem fld26_5 : fldOf Tryd.prog 26 5 = some (7, 1, false) := by kernel_rfl
theorem fld26_6 : fldOf Tryd.prog 26 6 = some (8, 1, false) := by kernel_rfl
theorem fld26_7 : fldOf Tryd.prog 26 7 = some (9, 1, false) := by kernel_rfl
theorem fld45_0 : fldOf Tryd.prog 45 0 = some (0, 1, false) := by kernel_rfl
theorem fld45_1 : fldOf Tryd.prog 45 1 = some (1, 3, true) := by kernel_rfl
theorem fld45_2 : fldOf Tryd.prog 45 2 = some (4, 1, false) := by kernel_rfl
theorem fld45_3 : fldOf Tryd.prog 45 3 = some (5, 1, false) := by kernel_rfl
theorem fld45_4 : fldOf Tryd.prog 45 4 = some (6, 1, false) := by kernel_rfl
theorem fld45_5 : fldOf Tryd.prog 45 5 = some (7, 1, false) := by kernel_rfl
theorem fld53_0 : fldOf Tryd.prog 53 0 = some (0, 1, false) := by kernel_rfl
theorem fld53_1 : fldOf Tryd.prog 53 1 = some (1, 1, false) := by kernel_rfl
theorem fld53_2 : fldOf Tryd.prog 53 2 = some (2, 1, false) := by kernel_rfl
theorem fld53_3 : fldOf Tryd.prog 53 3 = some (3, 3, true) := by kernel_rfl
theorem fld53_4 : fldOf Tryd.prog 53 4 = some (6, 1, false) := by kernel_rfl
theorem fld55_0 : fldOf Tryd.prog 55 0 = some (0, 1, false) := by kernel_rfl
theorem fld55_1 : fldOf Tryd.prog 55 1 = some (1, 7, true) := by kernel_rfl
theorem fld63_0 : fldOf Tryd.prog 63 0 = some (0, 1, false) := by kernel_rfl
theorem fld63_1 : fldOf Tryd.prog 63 1 = some (1, 1, false) := by kernel_rfl
theorem fld73_0 : fldOf Tryd.prog 73 0 = some (0, 1, false) := by kernel_rfl
theorem fld73_1 : fldOf Tryd.prog 73 1 = some (1, 3, true) := by kernel_rfl
theorem fld73_2 : fldOf Tryd.prog 73 2 = some (4, 1, false) := by kernel_rfl
theorem fld73_3 : fldOf Tryd.prog 73 3 = some (5, 1, false) := by kernel_rfl
theorem fld73_4 : fldOf Tryd.prog 73 4 = some (6, 1, false) := by kernel_rfl
theorem fld73_5 : fldOf Tryd.prog 73 5 = some (7, 1, false) := by kernel_rfl
theorem fld74_0 : fldOf Tryd.prog 74 0 = some (0, 1, false) := by kernel_rfl
theorem fld74_1 : fldOf Tryd.prog 74 1 = some (1, 1, false) := by kernel_rfl
theorem fld74_2 : fldOf Tryd.prog 74 2 = some (2, 1, false) := by kernel_rfl
theorem fld74_3 : fldOf Tryd.prog 74 3 = some (3, 3, true) := by kernel_rfl
theorem fld74_4 : fldOf Tryd.prog 74 4 = some (6, 1, false) := by kernel_rfl
theorem fld76_0 : fldOf Tryd.prog 76 0 = some (0, 1, false) := by kernel_rfl
theorem fld76_1 : fldOf Tryd.prog 76 1 = some (1, 7, true) := by kernel_rfl
theorem fld78_0 : fldOf Tryd.prog 78 0 = some (0, 8, true) := by kernel_rfl
theorem fld78_1 : fldOf Tryd.prog 78 1 = some (8, 8, true) := by kernel_rfl
theorem fld78_2 : fldOf Tryd.prog 78 2 = some (16, 10, true) := by kernel_rfl
theorem fld78_3 : fldOf Tryd.prog 78 3 = some (26, 1, false) := by kernel_rfl
theorem fld97_0 : fldOf Tryd.prog 97 0 = some (0, 1, false) := by kernel_rfl
theorem fld97_1 : fldOf Tryd.prog 97 1 = some (1, 1, false) := by kernel_rfl
theorem fld97_2 : fldOf Tryd.prog 97 2 = some (2, 3, true) := by kernel_rfl
theorem fld97_3 : fldOf Tryd.prog 97 3 = some (5, 1, false) := by kernel_rfl
theorem fld174_0 : fldOf Tryd.prog 174 0 = some (0, 1, false) := by kernel_rfl
theorem fld174_1 : fldOf Tryd.prog 174 1 = some (1, 1, false) := by kernel_rfl
theorem fld174_2 : fldOf Tryd.prog 174 2 = some (2, 1, false) := by kernel_rfl
theorem fld178_0 : fldOf Tryd.prog 178 0 = some (0, 1, false) := by kernel_rfl
theorem fld178_1 : fldOf Tryd.prog 178 1 = some (1, 1, false) := by kernel_rfl
theorem fld201_0 : fldOf Tryd.prog 201 0 = some (0, 1, false) := by kernel_rfl
theorem el36 : elOf Tryd.prog 36 = some (5, 1) := by kernel_rfl
theorem el42 : elOf Tryd.prog 42 = some (3, 1) := by kernel_rfl
theorem el43 : elOf Tryd.prog 43 = some (4, 1) := by kernel_rfl
theorem el48 : elOf Tryd.prog 48 = some (26, 10) := by kernel_rfl
theorem el51 : elOf Tryd.prog 51 = some (9, 1) := by kernel_rfl
theorem el61 : elOf Tryd.prog 61 = some (63, 2) := by kernel_rfl
theorem arr181 : arrOf Tryd.prog 181 = some (32, 1, false) := by kernel_rfl
theorem arr242 : arrOf Tryd.prog 242 = some (256, 1, false) := by kernel_rfl
theorem un3 : Tryd.prog.underlying 3 = some (.int .i64) := by kernel_rfl
theorem un3s : (Tryd.prog.underlying 3).isSome = true := by kernel_rfl
theorem un4 : Tryd.prog.underlying 4 = some (.bool) := by kernel_rfl
theorem un4s : (Tryd.prog.underlying 4).isSome = true := by kernel_rfl
theorem un5 : Tryd.prog.underlying 5 = some (.int .u8) := by kernel_rfl
theorem un5s : (Tryd.prog.underlying 5).isSome = true := by kernel_rfl
theorem un9 : Tryd.prog.underlying 9 = some (.string) := by kernel_rfl
theorem un9s : (Tryd.prog.underlying 9).isSome = true := by kernel_rfl
theorem un23s : (Tryd.prog.underlying 23).isSome = true := by kernel_rfl
theorem un24 : Tryd.prog.underlying 24 = some (.int .u32) := by kernel_rfl
theorem un24s : (Tryd.prog.underlying 24).isSome = true := by kernel_rfl
theorem un26s : (Tryd.prog.underlying 26).isSome = true := by kernel_rfl
theorem un29 : Tryd.prog.underlying 29 = some (.interface (Tryd.prog.methodsAt 29)) := by kernel_rfl
theorem un29s : (Tryd.prog.underlying 29).isSome = true := by kernel_rfl
theorem un36 : Tryd.prog.underlying 36 = some (.slice 5) := by kernel_rfl
theorem un36s : (Tryd.prog.underlying 36).isSome = true := by kernel_rfl
theorem un39 : Tryd.prog.underlying 39 = some (.int .u64) := by kernel_rfl
theorem un39s : (Tryd.prog.underlying 39).isSome = true := by kernel_rfl
theorem un42 : Tryd.prog.underlying 42 = some (.slice 3) := by kernel_rfl
theorem un42s : (Tryd.prog.underlying 42).isSome = true := by kernel_rfl
theorem un43 : Tryd.prog.underlying 43 = some (.slice 4) := by kernel_rfl
theorem un43s : (Tryd.prog.underlying 43).isSome = true := by kernel_rfl
theorem un48 : Tryd.prog.underlying 48 = some (.slice 26) := by kernel_rfl
theorem un48s : (Tryd.prog.underlying 48).isSome = true := by kernel_rfl
theorem un51 : Tryd.prog.underlying 51 = some (.slice 9) := by kernel_rfl
theorem un51s : (Tryd.prog.underlying 51).isSome = true := by kernel_rfl
theorem un61 : Tryd.prog.underlying 61 = some (.slice 63) := by kernel_rfl
theorem un61s : (Tryd.prog.underlying 61).isSome = true := by kernel_rfl
theorem z3 : Zero Tryd.prog 3 (.int .i64 0) := zero_of (by kernel_rfl)
theorem z4 : Zero Tryd.prog 4 (.bool false) := zero_of (by kernel_rfl)
theorem z5 : Zero Tryd.prog 5 (.int .u8 0) := zero_of (by kernel_rfl)
theorem z9 : Zero Tryd.prog 9 (.str []) := zero_of (by kernel_rfl)
theorem z23 : Zero Tryd.prog 23 (.agg [.int .i64 0, .int .i64 0, .int .i64 0]) := zero_of (by kernel_rfl)
theorem z26 : Zero Tryd.prog 26 (.agg [.int .i64 0, .int .i64 0, .agg [.int .i64 0, .int .i64 0, .int .i64 0], .int .i64 0, .int .i64 0, .int .i64 0, .int .u32 0, .str []]) := zero_of (by kernel_rfl)
theorem z45 : Zero Tryd.prog 45 (.agg [.int .i64 0, .agg [.int .i64 0, .int .i64 0, .int .i64 0], .int .i64 0, .str [], .sl 1 true 0 (fun _ => .top), .int .i64 0]) := zero_of (by kernel_rfl)
theorem z48 : Zero Tryd.prog 48 (.sl 10 true 0 (fun _ => .top)) := zero_of (by kernel_rfl)
theorem z53 : Zero Tryd.prog 53 (.agg [.int .i64 0, .int .i64 0, .int .i64 0, .agg [.int .i64 0, .int .i64 0, .int .i64 0], .sl 1 true 0 (fun _ => .top)]) := zero_of (by kernel_rfl)
theorem z55 : Zero Tryd.prog 55 (.agg [.bool false, .agg [.int .i64 0, .int .i64 0, .int .i64 0, .agg [.int .i64 0, .int .i64 0, .int .i64 0], .sl 1 true 0 (fun _ => .top)]]) := zero_of (by kernel_rfl)
theorem z63 : Zero Tryd.prog 63 (.agg [.sl 1 true 0 (fun _ => .top), .sl 1 true 0 (fun _ => .top)]) := zero_of (by kernel_rfl)
theorem z73 : Zero Tryd.prog 73 (.agg [.int .i64 0, .agg [.int .i64 0, .int .i64 0, .int .i64 0], .int .i64 0, .str [], .sl 1 true 0 (fun _ => .top), .int .i64 0]) := zero_of (by kernel_rfl)
theorem z74 : Zero Tryd.prog 74 (.agg [.int .i64 0, .int .i64 0, .int .i64 0, .agg [.int .i64 0, .int .i64 0, .int .i64 0], .sl 1 true 0 (fun _ => .top)]) := zero_of (by kernel_rfl)
theorem z76 : Zero Tryd.prog 76 (.agg [.bool false, .agg [.int .i64 0, .int .i64 0, .int .i64 0, .agg [.int .i64 0, .int .i64 0, .int .i64 0], .sl 1 true 0 (fun _ => .top)]]) := zero_of (by kernel_rfl)
theorem z78 : Zero Tryd.prog 78 (.agg [.agg [.int .i64 0, .agg [.int .i64 0, .int .i64 0, .int .i64 0], .int .i64 0, .str [], .sl 1 true 0 (fun _ => .top), .int .i64 0], .agg [.bool false, .agg [.int .i64 0, .int .i64 0, .int .i64 0, .agg [.int .i64 0, .int .i64 0, .int .i64 0], .sl 1 true 0 (fun _ => .top)]], .agg [.int .i64 0, .int .i64 0, .agg [.int .i64 0, .int .i64 0, .int .i64 0], .int .i64 0, .int .i64 0, .int .i64 0, .int .u32 0, .str []], .int .i64 0]) := zero_of (by kernel_rfl)
theorem z174 : Zero Tryd.prog 174 (.agg [.sl 1 true 0 (fun _ => .top), .int .i64 0, .int .i64 0]) := zero_of (by kernel_rfl)
theorem z178 : Zero Tryd.prog 178 (.agg [.sl 1 true 0 (fun _ => .top), .err .nil]) := zero_of (by kernel_rfl)
theorem z197 : Zero Tryd.prog 197 (.val (.pointer none)) := zero_of (by kernel_rfl)
theorem z201 : Zero Tryd.prog 201 (.agg [.int .i64 0, .err .nil]) := zero_of (by kernel_rfl)
theorem bld23 : bldOf Tryd.prog 23 = some [(0, 1), (1, 1), (2, 1)] := by kernel_rfl
theorem bld26 : bldOf Tryd.prog 26 = some [(0, 1), (1, 1), (2, 3), (5, 1), (6, 1), (7, 1), (8, 1), (9, 1)] := by kernel_rfl
theorem bld45 : bldOf Tryd.prog 45 = some [(0, 1), (1, 3), (4, 1), (5, 1), (6, 1), (7, 1)] := by kernel_rfl
theorem bld53 : bldOf Tryd.prog 53 = some [(0, 1), (1, 1), (2, 1), (3, 3), (6, 1)] := by kernel_rfl
theorem bld55 : bldOf Tryd.prog 55 = some [(0, 1), (1, 7)] := by kernel_rfl
theorem bld73 : bldOf Tryd.prog 73 = some [(0, 1), (1, 3), (4, 1), (5, 1), (6, 1), (7, 1)] := by kernel_rfl
theorem bld74 : bldOf Tryd.prog 74 = some [(0, 1), (1, 1), (2, 1), (3, 3), (6, 1)] := by kernel_rfl
theorem bld76 : bldOf Tryd.prog 76 = some [(0, 1), (1, 7)] := by kernel_rfl
theorem bld174 : bldOf Tryd.prog 174 = some [(0, 1), (1, 1), (2, 1)] := by kernel_rfl
theorem bld178 : bldOf Tryd.prog 178 = some [(0, 1), (1, 1)] := by kernel_rfl
theorem bld201 : bldOf Tryd.prog 201 = some [(0, 1), (1, 1)] := by kernel_rfl
theorem eb36 : elB Tryd.prog 36 = some (5, 1, 1) := by kernel_rfl
theorem eb42 : elB Tryd.prog 42 = some (3, 1, 8) := by kernel_rfl
theorem eb43 : elB Tryd.prog 43 = some (4, 1, 1) := by kernel_rfl
theorem eb48 : elB Tryd.prog 48 = some (26, 10, 88) := by kernel_rfl
theorem eb51 : elB Tryd.prog 51 = some (9, 1, 16) := by kernel_rfl
theorem eq23 (a1 b1 : Int) (a2 b2 : Int) (a3 b3 : Int) : EqT Tryd.prog 23 (.agg [.int .i64 a1, .int .i64 a2, .int .i64 a3]) (.agg [.int .i64 b1, .int .i64 b2, .int .i64 b3]) (decide (a1 = b1) && (decide (a2 = b2) && (decide (a3 = b3) && true))) := eqV_spec 9 _ _ _ _ (by kernel_rfl)
theorem eg23 : Tryd.prog.eqGuardType Tryd.prog.depth 23 = false := by kernel_rfl
theorem eq26 (a1 b1 : Int) (a2 b2 : Int) (a3 b3 : Int) (a4 b4 : Int) (a5 b5 : Int) (a6 b6 : Int) (a7 b7 : Int) (a8 b8 : Int) (a9 b9 : Int) (a10 b10 : List UInt8) : EqT Tryd.prog 26 (.agg [.int .i64 a1, .int .i64 a2, .agg [.int .i64 a3, .int .i64 a4, .int .i64 a5], .int .i64 a6, .int .i64 a7, .int .i64 a8, .int .u32 a9, .str a10]) (.agg [.int .i64 b1, .int .i64 b2, .agg [.int .i64 b3, .int .i64 b4, .int .i64 b5], .int .i64 b6, .int .i64 b7, .int .i64 b8, .int .u32 b9, .str b10]) (decide (a1 = b1) && (decide (a2 = b2) && ((decide (a3 = b3) && (decide (a4 = b4) && (decide (a5 = b5) && true))) && (decide (a6 = b6) && (decide (a7 = b7) && (decide (a8 = b8) && (decide (a9 = b9) && (decide (a10 = b10) && true)))))))) := eqV_spec 9 _ _ _ _ (by kernel_rfl)
theorem eg26 : Tryd.prog.eqGuardType Tryd.prog.depth 26 = false := by kernel_rfl
theorem hmix : Tryd.prog.follows .mixedOrders = true := by kernel_rfl
theorem unu8 : Tryd.prog.underlying 5 = some (.int .u8) := by kernel_rfl
theorem ent2 : Ent Tryd.prog 2 := ⟨Tryd.f2, Tryd.func2, by kernel_rfl, by kernel_rfl⟩
theorem ent3 : Ent Tryd.prog 3 := ⟨Tryd.f3, Tryd.func3, by kernel_rfl, by kernel_rfl⟩
theorem ent4 : Ent Tryd.prog 4 := ⟨Tryd.f4, Tryd.func4, by kernel_rfl, by kernel_rfl⟩
theorem ent5 : Ent Tryd.prog 5 := ⟨Tryd.f5, Tryd.func5, by kernel_rfl, by kernel_rfl⟩
theorem ent6 : Ent Tryd.prog 6 := ⟨Tryd.f6, Tryd.func6, by kernel_rfl, by kernel_rfl⟩
theorem ent7 : Ent Tryd.prog 7 := ⟨Tryd.f7, Tryd.func7, by kernel_rfl, by kernel_rfl⟩
theorem ent8 : Ent Tryd.prog 8 := ⟨Tryd.f8, Tryd.func8, by kernel_rfl, by kernel_rfl⟩
theorem ent9 : Ent Tryd.prog 9 := ⟨Tryd.f9, Tryd.func9, by kernel_rfl, by kernel_rfl⟩
theorem ent10 : Ent Tryd.prog 10 := ⟨Tryd.f10, Tryd.func10, by kernel_rfl, by kernel_rfl⟩
theorem ent11 : Ent Tryd.prog 11 := ⟨Tryd.f11, Tryd.func11, by kernel_rfl, by kernel_rfl⟩
theorem ent12 : Ent Tryd.prog 12 := ⟨Tryd.f12, Tryd.func12, by kernel_rfl, by kernel_rfl⟩
theorem ent13 : Ent Tryd.prog 13 := ⟨Tryd.f13, Tryd.func13, by kernel_rfl, by kernel_rfl⟩
theorem ent14 : Ent Tryd.prog 14 := ⟨Tryd.f14, Tryd.func14, by kernel_rfl, by kernel_rfl⟩
theorem ent15 : Ent Tryd.prog 15 := ⟨Tryd.f15, Tryd.func15, by kernel_rfl, by kernel_rfl⟩
theorem ent16 : Ent Tryd.prog 16 := ⟨Tryd.f16, Tryd.func16, by kernel_rfl, by kernel_rfl⟩
theorem ent17 : Ent Tryd.prog 17 := ⟨Tryd.f17, Tryd.func17, by kernel_rfl, by kernel_rfl⟩
theorem ent18 : Ent Tryd.prog 18 := ⟨Tryd.f18, Tryd.func18, by kernel_rfl, by kernel_rfl⟩
theorem ent19 : Ent Tryd.prog 19 := ⟨Tryd.f19, Tryd.func19, by kernel_rfl, by kernel_rfl⟩
theorem ent20 : Ent Tryd.prog 20 := ⟨Tryd.f20, Tryd.func20, by kernel_rfl, by kernel_rfl⟩
theorem ent21 : Ent Tryd.prog 21 := ⟨Tryd.f21, Tryd.func21, by kernel_rfl, by kernel_rfl⟩
theorem ent22 : Ent Tryd.prog 22 := ⟨Tryd.f22, Tryd.func22, by kernel_rfl, by kernel_rfl⟩
theorem ent23 : Ent Tryd.prog 23 := ⟨Tryd.f23, Tryd.func23, by kernel_rfl, by kernel_rfl⟩
theorem ent24 : Ent Tryd.prog 24 := ⟨Tryd.f24, Tryd.func24, by kernel_rfl, by kernel_rfl⟩
theorem ent25 : Ent Tryd.prog 25 := ⟨Tryd.f25, Tryd.func25, by kernel_rfl, by kernel_rfl⟩
theorem ent26 : Ent Tryd.prog 26 := ⟨Tryd.f26, Tryd.func26, by kernel_rfl, by kernel_rfl⟩
theorem ent27 : Ent Tryd.prog 27 := ⟨Tryd.f27, Tryd.func27, by kernel_rfl, by kernel_rfl⟩
theorem ent28 : Ent Tryd.prog 28 := ⟨Tryd.f28, Tryd.func28, by kernel_rfl, by kernel_rfl⟩
theorem ent29 : Ent Tryd.prog 29 := ⟨Tryd.f29, Tryd.func29, by kernel_rfl, by kernel_rfl⟩
theorem ent30 : Ent Tryd.prog 30 := ⟨Tryd.f30, Tryd.func30, by kernel_rfl, by kernel_rfl⟩
theorem ent31 : Ent Tryd.prog 31 := ⟨Tryd.f31, Tryd.func31, by kernel_rfl, by kernel_rfl⟩
theorem ent32 : Ent Tryd.prog 32 := ⟨Tryd.f32, Tryd.func32, by kernel_rfl, by kernel_rfl⟩
theorem ent33 : Ent Tryd.prog 33 := ⟨Tryd.f33, Tryd.func33, by kernel_rfl, by kernel_rfl⟩
theorem ent34 : Ent Tryd.prog 34 := ⟨Tryd.f34, Tryd.func34, by kernel_rfl, by kernel_rfl⟩
theorem ent35 : Ent Tryd.prog 35 := ⟨Tryd.f35, Tryd.func35, by kernel_rfl, by kernel_rfl⟩
theorem ent36 : Ent Tryd.prog 36 := ⟨Tryd.f36, Tryd.func36, by kernel_rfl, by kernel_rfl⟩
theorem ent37 : Ent Tryd.prog 37 := ⟨Tryd.f37, Tryd.func37, by kernel_rfl, by kernel_rfl⟩
theorem ent38 : Ent Tryd.prog 38 := ⟨Tryd.f38, Tryd.func38, by kernel_rfl, by kernel_rfl⟩
theorem ent39 : Ent Tryd.prog 39 := ⟨Tryd.f39, Tryd.func39, by kernel_rfl, by kernel_rfl⟩
theorem ent40 : Ent Tryd.prog 40 := ⟨Tryd.f40, Tryd.func40, by kernel_rfl, by kernel_rfl⟩
theorem ent41 : Ent Tryd.prog 41 := ⟨Tryd.f41, Tryd.func41, by kernel_rfl, by kernel_rfl⟩
theorem ent42 : Ent Tryd.prog 42 := ⟨Tryd.f42, Tryd.func42, by kernel_rfl, by kernel_rfl⟩
theorem ent43 : Ent Tryd.prog 43 := ⟨Tryd.f43, Tryd.func43, by kernel_rfl, by kernel_rfl⟩
theorem ent44 : Ent Tryd.prog 44 := ⟨Tryd.f44, Tryd.func44, by kernel_rfl, by kernel_rfl⟩
theorem ent45 : Ent Tryd.prog 45 := ⟨Tryd.f45, Tryd.func45, by kernel_rfl, by kernel_rfl⟩
theorem ent46 : Ent Tryd.prog 46 := ⟨Tryd.f46, Tryd.func46, by kernel_rfl, by kernel_rfl⟩
theorem ent47 : Ent Tryd.prog 47 := ⟨Tryd.f47, Tryd.func47, by kernel_rfl, by kernel_rfl⟩
theorem ent48 : Ent Tryd.prog 48 := ⟨Tryd.f48, Tryd.func48, by kernel_rfl, by kernel_rfl⟩
theorem ent49 : Ent Tryd.prog 49 := ⟨Tryd.f49, Tryd.func49, by kernel_rfl, by kernel_rfl⟩
theorem ent50 : Ent Tryd.prog 50 := ⟨Tryd.f50, Tryd.func50, by kernel_rfl, by kernel_rfl⟩
theorem ent51 : Ent Tryd.prog 51 := ⟨Tryd.f51, Tryd.func51, by kernel_rfl, by kernel_rfl⟩
theorem ent52 : Ent Tryd.prog 52 := ⟨Tryd.f52, Tryd.func52, by kernel_rfl, by kernel_rfl⟩
theorem ent53 : Ent Tryd.prog 53 := ⟨Tryd.f53, Tryd.func53, by kernel_rfl, by kernel_rfl⟩
theorem ent54 : Ent Tryd.prog 54 := ⟨Tryd.f54, Tryd.func54, by kernel_rfl, by kernel_rfl⟩
theorem ent55 : Ent Tryd.prog 55 := ⟨Tryd.f55, Tryd.func55, by kernel_rfl, by kernel_rfl⟩
theorem ent56 : Ent Tryd.prog 56 := ⟨Tryd.f56, Tryd.func56, by kernel_rfl, by kernel_rfl⟩
theorem ent57 : Ent Tryd.prog 57 := ⟨Tryd.f57, Tryd.func57, by kernel_rfl, by kernel_rfl⟩
theorem ent58 : Ent Tryd.prog 58 := ⟨Tryd.f58, Tryd.func58, by kernel_rfl, by kernel_rfl⟩
theorem ent59 : Ent Tryd.prog 59 := ⟨Tryd.f59, Tryd.func59, by kernel_rfl, by kernel_rfl⟩
theorem ent60 : Ent Tryd.prog 60 := ⟨Tryd.f60, Tryd.func60, by kernel_rfl, by kernel_rfl⟩
theorem ent61 : Ent Tryd.prog 61 := ⟨Tryd.f61, Tryd.func61, by kernel_rfl, by kernel_rfl⟩
theorem ent62 : Ent Tryd.prog 62 := ⟨Tryd.f62, Tryd.func62, by kernel_rfl, by kernel_rfl⟩
theorem ent63 : Ent Tryd.prog 63 := ⟨Tryd.f63, Tryd.func63, by kernel_rfl, by kernel_rfl⟩
theorem ent64 : Ent Tryd.prog 64 := ⟨Tryd.f64, Tryd.func64, by kernel_rfl, by kernel_rfl⟩
theorem ent65 : Ent Tryd.prog 65 := ⟨Tryd.f65, Tryd.func65, by kernel_rfl, by kernel_rfl⟩
theorem ent66 : Ent Tryd.prog 66 := ⟨Tryd.f66, Tryd.func66, by kernel_rfl, by kernel_rfl⟩
theorem ent67 : Ent Tryd.prog 67 := ⟨Tryd.f67, Tryd.func67, by kernel_rfl, by kernel_rfl⟩
theorem ent68 : Ent Tryd.prog 68 := ⟨Tryd.f68, Tryd.func68, by kernel_rfl, by kernel_rfl⟩
theorem ent69 : Ent Tryd.prog 69 := ⟨Tryd.f69, Tryd.func69, by kernel_rfl, by kernel_rfl⟩
theorem ent70 : Ent Tryd.prog 70 := ⟨Tryd.f70, Tryd.func70, by kernel_rfl, by kernel_rfl⟩
theorem ent71 : Ent Tryd.prog 71 := ⟨Tryd.f71, Tryd.func71, by kernel_rfl, by kernel_rfl⟩
theorem ent72 : Ent Tryd.prog 72 := ⟨Tryd.f72, Tryd.func72, by kernel_rfl, by kernel_rfl⟩
theorem ent73 : Ent Tryd.prog 73 := ⟨Tryd.f73, Tryd.func73, by kernel_rfl, by kernel_rfl⟩
theorem ent74 : Ent Tryd.prog 74 := ⟨Tryd.f74, Tryd.func74, by kernel_rfl, by kernel_rfl⟩
theorem ent75 : Ent Tryd.prog 75 := ⟨Tryd.f75, Tryd.func75, by kernel_rfl, by kernel_rfl⟩
theorem ent76 : Ent Tryd.prog 76 := ⟨Tryd.f76, Tryd.func76, by kernel_rfl, by kernel_rfl⟩
theorem ent77 : Ent Tryd.prog 77 := ⟨Tryd.f77, Tryd.func77, by kernel_rfl, by kernel_rfl⟩
theorem ent78 : Ent Tryd.prog 78 := ⟨Tryd.f78, Tryd.func78, by kernel_rfl, by kernel_rfl⟩
theorem ent79 : Ent Tryd.prog 79 := ⟨Tryd.f79, Tryd.func79, by kernel_rfl, by kernel_rfl⟩
theorem ent80 : Ent Tryd.prog 80 := ⟨Tryd.f80, Tryd.func80, by kernel_rfl, by kernel_rfl⟩
theorem ent81 : Ent Tryd.prog 81 := ⟨Tryd.f81, Tryd.func81, by kernel_rfl, by kernel_rfl⟩
theorem ent82 : Ent Tryd.prog 82 := ⟨Tryd.f82, Tryd.func82, by kernel_rfl, by kernel_rfl⟩
theorem ent83 : Ent Tryd.prog 83 := ⟨Tryd.f83, Tryd.func83, by kernel_rfl, by kernel_rfl⟩
theorem ent84 : Ent Tryd.prog 84 := ⟨Tryd.f84, Tryd.func84, by kernel_rfl, by kernel_rfl⟩
theorem ent85 : Ent Tryd.prog 85 := ⟨Tryd.f85, Tryd.func85, by kernel_rfl, by kernel_rfl⟩
theorem ent86 : Ent Tryd.prog 86 := ⟨Tryd.f86, Tryd.func86, by kernel_rfl, by kernel_rfl⟩
theorem ent87 : Ent Tryd.prog 87 := ⟨Tryd.f87, Tryd.func87, by kernel_rfl, by kernel_rfl⟩
theorem ent88 : Ent Tryd.prog 88 := ⟨Tryd.f88, Tryd.func88, by kernel_rfl, by kernel_rfl⟩
theorem ent89 : Ent Tryd.prog 89 := ⟨Tryd.f89, Tryd.func89, by kernel_rfl, by kernel_rfl⟩
theorem ent90 : Ent Tryd.prog 90 := ⟨Tryd.f90, Tryd.func90, by kernel_rfl, by kernel_rfl⟩
theorem ent91 : Ent Tryd.prog 91 := ⟨Tryd.f91, Tryd.func91, by kernel_rfl, by kernel_rfl⟩
theorem ent92 : Ent Tryd.prog 92 := ⟨Tryd.f92, Tryd.func92, by kernel_rfl, by kernel_rfl⟩
theorem ent93 : Ent Tryd.prog 93 := ⟨Tryd.f93, Tryd.func93, by kernel_rfl, by kernel_rfl⟩
theorem ent94 : Ent Tryd.prog 94 := ⟨Tryd.f94, Tryd.func94, by kernel_rfl, by kernel_rfl⟩
theorem ent95 : Ent Tryd.prog 95 := ⟨Tryd.f95, Tryd.func95, by kernel_rfl, by kernel_rfl⟩
theorem ent96 : Ent Tryd.prog 96 := ⟨Tryd.f96, Tryd.func96, by kernel_rfl, by kernel_rfl⟩
theorem ent97 : Ent Tryd.prog 97 := ⟨Tryd.f97, Tryd.func97, by kernel_rfl, by kernel_rfl⟩
theorem ent98 : Ent Tryd.prog 98 := ⟨Tryd.f98, Tryd.func98, by kernel_rfl, by kernel_rfl⟩
theorem ent99 : Ent Tryd.prog 99 := ⟨Tryd.f99, Tryd.func99, by kernel_rfl, by kernel_rfl⟩
theorem ent100 : Ent Tryd.prog 100 := ⟨Tryd.f100, Tryd.func100, by kernel_rfl, by kernel_rfl⟩
theorem ent101 : Ent Tryd.prog 101 := ⟨Tryd.f101, Tryd.func101, by kernel_rfl, by kernel_rfl⟩
theorem ent102 : Ent Tryd.prog 102 := ⟨Tryd.f102, Tryd.func102, by kernel_rfl, by kernel_rfl⟩
theorem ent103 : Ent Tryd.prog 103 := ⟨Tryd.f103, Tryd.func103, by kernel_rfl, by kernel_rfl⟩
theorem ent104 : Ent Tryd.prog 104 := ⟨Tryd.f104, Tryd.func104, by kernel_rfl, by kernel_rfl⟩
theorem ent105 : Ent Tryd.prog 105 := ⟨Tryd.f105, Tryd.func105, by kernel_rfl, by kernel_rfl⟩
theorem ent106 : Ent Tryd.prog 106 := ⟨Tryd.f106, Tryd.func106, by kernel_rfl, by kernel_rfl⟩
theorem ent107 : Ent Tryd.prog 107 := ⟨Tryd.f107, Tryd.func107, by kernel_rfl, by kernel_rfl⟩
theorem ent108 : Ent Tryd.prog 108 := ⟨Tryd.f108, Tryd.func108, by kernel_rfl, by kernel_rfl⟩
theorem ent109 : Ent Tryd.prog 109 := ⟨Tryd.f109, Tryd.func109, by kernel_rfl, by kernel_rfl⟩
theorem ent110 : Ent Tryd.prog 110 := ⟨Tryd.f110, Tryd.func110, by kernel_rfl, by kernel_rfl⟩
theorem ent111 : Ent Tryd.prog 111 := ⟨Tryd.f111, Tryd.func111, by kernel_rfl, by kernel_rfl⟩
theorem ent112 : Ent Tryd.prog 112 := ⟨Tryd.f112, Tryd.func112, by kernel_rfl, by kernel_rfl⟩
theorem ent113 : Ent Tryd.prog 113 := ⟨Tryd.f113, Tryd.func113, by kernel_rfl, by kernel_rfl⟩
theorem ent114 : Ent Tryd.prog 114 := ⟨Tryd.f114, Tryd.func114, by kernel_rfl, by kernel_rfl⟩
theorem ent115 : Ent Tryd.prog 115 := ⟨Tryd.f115, Tryd.func115, by kernel_rfl, by kernel_rfl⟩
theorem ent116 : Ent Tryd.prog 116 := ⟨Tryd.f116, Tryd.func116, by kernel_rfl, by kernel_rfl⟩
theorem ent117 : Ent Tryd.prog 117 := ⟨Tryd.f117, Tryd.func117, by kernel_rfl, by kernel_rfl⟩
theorem ent118 : Ent Tryd.prog 118 := ⟨Tryd.f118, Tryd.func118, by kernel_rfl, by kernel_rfl⟩
theorem ent119 : Ent Tryd.prog 119 := ⟨Tryd.f119, Tryd.func119, by kernel_rfl, by kernel_rfl⟩
theorem ent120 : Ent Tryd.prog 120 := ⟨Tryd.f120, Tryd.func120, by kernel_rfl, by kernel_rfl⟩
theorem ent121 : Ent Tryd.prog 121 := ⟨Tryd.f121, Tryd.func121, by kernel_rfl, by kernel_rfl⟩
theorem ent122 : Ent Tryd.prog 122 := ⟨Tryd.f122, Tryd.func122, by kernel_rfl, by kernel_rfl⟩
theorem ent123 : Ent Tryd.prog 123 := ⟨Tryd.f123, Tryd.func123, by kernel_rfl, by kernel_rfl⟩
theorem ent124 : Ent Tryd.prog 124 := ⟨Tryd.f124, Tryd.func124, by kernel_rfl, by kernel_rfl⟩
theorem ent125 : Ent Tryd.prog 125 := ⟨Tryd.f125, Tryd.func125, by kernel_rfl, by kernel_rfl⟩
theorem ent126 : Ent Tryd.prog 126 := ⟨Tryd.f126, Tryd.func126, by kernel_rfl, by kernel_rfl⟩
theorem ent127 : Ent Tryd.prog 127 := ⟨Tryd.f127, Tryd.func127, by kernel_rfl, by kernel_rfl⟩
theorem ent128 : Ent Tryd.prog 128 := ⟨Tryd.f128, Tryd.func128, by kernel_rfl, by kernel_rfl⟩
theorem ent129 : Ent Tryd.prog 129 := ⟨Tryd.f129, Tryd.func129, by kernel_rfl, by kernel_rfl⟩
theorem ent130 : Ent Tryd.prog 130 := ⟨Tryd.f130, Tryd.func130, by kernel_rfl, by kernel_rfl⟩
theorem ent131 : Ent Tryd.prog 131 := ⟨Tryd.f131, Tryd.func131, by kernel_rfl, by kernel_rfl⟩
theorem ent132 : Ent Tryd.prog 132 := ⟨Tryd.f132, Tryd.func132, by kernel_rfl, by kernel_rfl⟩
theorem ent133 : Ent Tryd.prog 133 := ⟨Tryd.f133, Tryd.func133, by kernel_rfl, by kernel_rfl⟩
theorem ent134 : Ent Tryd.prog 134 := ⟨Tryd.f134, Tryd.func134, by kernel_rfl, by kernel_rfl⟩
theorem ent135 : Ent Tryd.prog 135 := ⟨Tryd.f135, Tryd.func135, by kernel_rfl, by kernel_rfl⟩
theorem ent136 : Ent Tryd.prog 136 := ⟨Tryd.f136, Tryd.func136, by kernel_rfl, by kernel_rfl⟩
theorem ent137 : Ent Tryd.prog 137 := ⟨Tryd.f137, Tryd.func137, by kernel_rfl, by kernel_rfl⟩
theorem ent138 : Ent Tryd.prog 138 := ⟨Tryd.f138, Tryd.func138, by kernel_rfl, by kernel_rfl⟩
theorem ent139 : Ent Tryd.prog 139 := ⟨Tryd.f139, Tryd.func139, by kernel_rfl, by kernel_rfl⟩
theorem ent140 : Ent Tryd.prog 140 := ⟨Tryd.f140, Tryd.func140, by kernel_rfl, by kernel_rfl⟩
theorem ent141 : Ent Tryd.prog 141 := ⟨Tryd.f141, Tryd.func141, by kernel_rfl, by kernel_rfl⟩
theorem ent145 : Ent Tryd.prog 145 := ⟨Tryd.f145, Tryd.func145, by kernel_rfl, by kernel_rfl⟩
theorem ent147 : Ent Tryd.prog 147 := ⟨Tryd.f147, Tryd.func147, by kernel_rfl, by kernel_rfl⟩
theorem ent148 : Ent Tryd.prog 148 := ⟨Tryd.f148, Tryd.func148, by kernel_rfl, by kernel_rfl⟩
theorem ent149 : Ent Tryd.prog 149 := ⟨Tryd.f149, Tryd.func149, by kernel_rfl, by kernel_rfl⟩
theorem ent154 : Ent Tryd.prog 154 := ⟨Tryd.f154, Tryd.func154, by kernel_rfl, by kernel_rfl⟩
theorem ent155 : Ent Tryd.prog 155 := ⟨Tryd.f155, Tryd.func155, by kernel_rfl, by kernel_rfl⟩
end Go.Proofs.YtgaihhimkodmmaaDoor
