/- Walks after the mirrors. Printed by mir.py. -/
import Derived.Test.YtoceeiamcfdnlaaWk2
namespace Go.Proofs.Ytoceeiamcfdnlaa
open Go.RowKit
set_option linter.unusedVariables false
/- (*inline.writer).callee -/
set_option maxRecDepth 100000 in
set_option maxHeartbeats 1000000 in
theorem inline_writer_callee_ok (N : Nat) (a0 : TWriter) (a1 : Int) (a2 : ByteArray) (r : ((Option Me) × TWriter)) (h : inline_writer_callee N a0 a1 a2 = some r) : Spec Try.prog 56 [(1000, .box [.fp (eWd a0.w), .fp (eMe a0.m), .own 1001, .int a0.temps, .own 1002, .own 1003] 107), (1001, .row 5 (List.map eIns a0.out) 62), (1002, .row 1 (List.map eInt a0.at_) 3), (1003, .row 1 (List.map eInt a0.fix) 3)] [.ptr 1000 0, .int a1, .str a2] (optP eMe r.1) [(1000, .box [.fp (eWd r.2.w), .fp (eMe r.2.m), .own 2, .int r.2.temps, .own 3, .own 4] 107), (2, .row 5 (List.map eIns r.2.out) 62), (1001, .gone), (3, .row 1 (List.map eInt r.2.at_) 3), (1002, .gone), (4, .row 1 (List.map eInt r.2.fix) 3), (1003, .gone)] [2, 3, 4] := by
  refine Spec.of tabOk Try.func56 rfl Try.ntmps56 (by kernel_rfl) rfl rfl rfl fun Γ hn => ?_
  unfold inline_writer_callee at h
  refine COk.reidB 1000 2 1001 320 rfl rfl rfl rfl rfl rfl rfl rfl rfl ?_
  refine COk.reidB 1000 4 1002 321 rfl rfl rfl rfl rfl rfl rfl rfl rfl ?_
  refine COk.reidB 1000 5 1003 322 rfl rfl rfl rfl rfl rfl rfl rfl rfl ?_
  refine COk.seqQ fun Q8 qn8 qx8 qr8 => ?_
  refine gor hn ?_
  refine qn8 _ _ ?_
  refine COk.seqQ fun Q9 qn9 qx9 qr9 => ?_
  refine gor hn ?_
  obtain ⟨r1, hr2, h⟩ := bindM h
  show CallOk Try.prog _ _ _ _
  refine CallOk.as (class_Find_ok N a0.w a1 a2 r1 hr2) (by repeat (first | exact trivial | exact rfl | (refine And.intro ?_ ?_))) trivial rfl ?_
  refine qn9 _ _ ?_
  refine COk.seqQ fun Q10 qn10 qx10 qr10 => ?_
  refine COk.seqQ fun Q11 qn11 qx11 qr11 => ?_
  refine COk.sub (ts2 := [(0, .ptr 1000 0), (7, .int r1.1), (8, .int r1.2)]) (os2 := [(320, .row 5 (List.map eIns a0.out) 62), (321, .row 1 (List.map eInt a0.at_) 3), (322, .row 1 (List.map eInt a0.fix) 3), (1000, .box [.fp (eWd a0.w), .fp (eMe a0.m), .own 320, .int a0.temps, .own 321, .own 322] 107), (1001, .gone), (1002, .gone), (1003, .gone)]) [] ⟨⟨rfl, rfl, rfl, trivial⟩, ⟨rfl, rfl, rfl, rfl, rfl, rfl, rfl, trivial⟩, rfl, rfl⟩ (by rw [hn]; rfl) ?_
  refine gor hn ?_
  refine qn11 _ _ ?_
  refine goc hn ?_
  refine bselM h (fun hb3 h => ?_) (fun hb3 h => ?_)
  · refine COk.seqQ fun Q13 qn13 qx13 qr13 => ?_
    refine gor hn ?_
    refine qn13 _ _ ?_
    refine got hn ?_
    refine qr10 _ _ ?_
    obtain rfl := Option.some.inj h
    exact ⟨[(2, 320), (3, 321), (4, 322)], _, rfl, (by repeat (first | exact trivial | exact rfl | (refine And.intro ?_ ?_))), ⟨rfl, rfl, rfl, rfl, rfl, rfl, rfl, trivial⟩, rfl, rfl, rfl, rfl, rfl⟩
  · refine gok hn ?_
    refine qn10 _ _ ?_
    refine COk.seqQ fun Q14 qn14 qx14 qr14 => ?_
    refine gor hn ?_
    obtain ⟨x4, hx5, h⟩ := bindM h
    refine idxM hx5 ?_
    obtain ⟨x6, hx7, h⟩ := bindM h
    refine idxM hx7 ?_
    refine qn14 _ _ ?_
    refine got hn ?_
    obtain rfl := Option.some.inj h
    exact ⟨[(2, 320), (3, 321), (4, 322)], _, rfl, (by repeat (first | exact trivial | exact rfl | (refine And.intro ?_ ?_))), ⟨rfl, rfl, rfl, rfl, rfl, rfl, rfl, trivial⟩, rfl, rfl, rfl, rfl, rfl⟩

/- slices.IndexFunc[[]api.Instr,api.Instr] -/
set_option maxRecDepth 100000 in
set_option maxHeartbeats 1000000 in
theorem slices_IndexFunc_api_Instr_api_Instr_ok (N : Nat) (a0 : (List Ins)) (g1 : Ins → Option Bool) {K1 : Nat} (hg1 : ∀ x0_ y_, g1 x0_ = some y_ → Spec Try.prog K1 [] [.agg (eIns x0_)] (.bool y_) [] []) (r : Int) (h : slices_IndexFunc_api_Instr_api_Instr N a0 g1 = some r) : Spec Try.prog 92 [] [.sl 5 (List.map eIns a0), .fn K1 []] (.int r) [] [] := by
  refine Spec.of tabOk Try.func92 rfl Try.ntmps92 (by kernel_rfl) rfl rfl rfl fun Γ hn => ?_
  unfold slices_IndexFunc_api_Instr_api_Instr at h
  refine COk.seqQ fun Q49 qn49 qx49 qr49 => ?_
  refine gor hn ?_
  refine qn49 _ _ ?_
  refine COk.seqQ fun Q50 qn50 qx50 qr50 => ?_
  refine COk.seqQ fun Q51 qn51 qx51 qr51 => ?_
  refine gor hn ?_
  refine lenM (fun hl1 => ?_)
  refine qn51 _ _ ?_
  obtain ⟨o3, h4, h⟩ := bindM h
  refine COk.joinR (ι := { s : Unit // o3 = Ctl.next s }) (fun s => []) (fun s => []) (fun Q78 qn78 qx78 qr78 => ?_) (by intro s; rw [hn]; rfl) ?_
  · refine COk.blkQ fun Q79 qn79 qe79 qx79 qr79 => ?_
    refine COk.loopQ (ι := { q : ((List Ins) × Nat) // q.1 = a0.drop q.2 ∧ slices_IndexFunc_api_Instr_api_Instr_l1 N g1 q.1 q.2 = some o3 }) (fun q => [(0, .sl 5 (List.map eIns a0)), (1, .fn K1 []), (7, .int (a0.length : Int)), (8, .int (q.1.2 : Int))]) (fun q => []) (fun q => q.1.1.length) ⟨(a0, 0), rfl, h4⟩ [] ⟨⟨(by repeat (first | exact trivial | exact rfl | (refine And.intro ?_ ?_))), rfl, rfl, rfl, trivial⟩, trivial, rfl, rfl⟩ (by intro q; rw [hn]; rfl) ?_
    rintro ⟨⟨rest_, k2⟩, hd6, h4⟩ Q80 qn80 qx80 qr80
    replace hd6 : rest_ = a0.drop k2 := hd6
    rcases rest_ with _ | ⟨x8, rest5⟩
    · have hlt10 := restNil hd6
      replace h4 := (slices_IndexFunc_api_Instr_api_Instr_l1.eq_1 _ _ _).symm.trans h4
      refine COk.seqQ fun Q81 qn81 qx81 qr81 => ?_
      refine gor hn ?_
      refine qn81 _ _ ?_
      refine COk.seqQ fun Q82 qn82 qx82 qr82 => ?_
      refine goc hn ?_
      refine bselF hlt10 ?_
      refine goe hn ?_
      refine qx82 _ _ _ ?_
      refine qx80 _ _ _ ?_
      refine qe79 _ _ ?_
      refine qn78 _ _ ?_
      obtain rfl := Option.some.inj h4
      refine EOk.done ?_
      exact ⟨⟨_, rfl⟩, [], trivial, ⟨trivial, trivial, rfl, rfl⟩⟩
    · obtain ⟨hx9, hd2, hlt10⟩ := restCons hd6
      replace h4 := (slices_IndexFunc_api_Instr_api_Instr_l1.eq_2 _ _ _ _ _).symm.trans h4
      refine COk.seqQ fun Q83 qn83 qx83 qr83 => ?_
      refine gor hn ?_
      refine qn83 _ _ ?_
      refine COk.seqQ fun Q84 qn84 qx84 qr84 => ?_
      refine goc hn ?_
      refine bselT hlt10 ?_
      refine gok hn ?_
      refine qn84 _ _ ?_
      refine COk.seqQ fun Q85 qn85 qx85 qr85 => ?_
      refine COk.blkQ fun Q91 qn91 qe91 qx91 qr91 => ?_
      refine COk.seqQ fun Q92 qn92 qx92 qr92 => ?_
      refine gor hn ?_
      refine qn92 _ _ ?_
      refine COk.seqQ fun Q93 qn93 qx93 qr93 => ?_
      refine gor hn ?_
      refine idxK hx9 ?_
      obtain ⟨r11, hr12, h4⟩ := bindM h4
      show CallOk Try.prog _ _ _ _
      refine CallOk.as (hg1 _ _ hr12) (by repeat (first | exact trivial | exact rfl | (refine And.intro ?_ ?_))) trivial rfl ?_
      refine qn93 _ _ ?_
      refine goc hn ?_
      refine bselM h4 (fun hb13 h4 => ?_) (fun hb13 h4 => ?_)
      · refine COk.seqQ fun Q95 qn95 qx95 qr95 => ?_
        refine gor hn ?_
        refine qn95 _ _ ?_
        refine got hn ?_
        refine qr91 _ _ ?_
        refine qr85 _ _ ?_
        refine qr80 _ _ ?_
        refine qr79 _ _ ?_
        refine qr78 _ _ ?_
        refine qr50 _ _ ?_
        obtain rfl := Option.some.inj h4
        obtain rfl := Option.some.inj h
        exact ⟨[], _, rfl, (by repeat (first | exact trivial | exact rfl | (refine And.intro ?_ ?_))), trivial, rfl, rfl, rfl, rfl, rfl⟩
      · refine gok hn ?_
        refine qn91 _ _ ?_
        refine qn85 _ _ ?_
        refine gor hn ?_
        refine Or.inl (And.intro (inrK hx9 hl1) ?_)
        refine qn80 _ _ ?_
        refine EOk.done ?_
        exact ⟨⟨(rest5, k2 + 1), hd2, h4⟩, [], by show rest5.length < rest5.length + 1; omega, ⟨⟨(by repeat (first | exact trivial | exact rfl | (refine And.intro ?_ ?_))), rfl, rfl, rfl, trivial⟩, trivial, rfl, rfl⟩⟩
  rintro ⟨⟨⟩, rfl⟩
  refine qn50 _ _ ?_
  refine COk.seqQ fun Q96 qn96 qx96 qr96 => ?_
  refine gor hn ?_
  refine qn96 _ _ ?_
  refine got hn ?_
  obtain rfl := Option.some.inj h
  exact ⟨[], _, rfl, (by repeat (first | exact trivial | exact rfl | (refine And.intro ?_ ?_))), trivial, rfl, rfl, rfl, rfl, rfl⟩

/- slices.ContainsFunc[[]api.Instr,api.Instr] -/
set_option maxRecDepth 100000 in
set_option maxHeartbeats 1000000 in
theorem slices_ContainsFunc_api_Instr_api_Instr_ok (N : Nat) (a0 : (List Ins)) (g1 : Ins → Option Bool) {K1 : Nat} (hg1 : ∀ x0_ y_, g1 x0_ = some y_ → Spec Try.prog K1 [] [.agg (eIns x0_)] (.bool y_) [] []) (r : Bool) (h : slices_ContainsFunc_api_Instr_api_Instr N a0 g1 = some r) : Spec Try.prog 79 [] [.sl 5 (List.map eIns a0), .fn K1 []] (.bool r) [] [] := by
  refine Spec.of tabOk Try.func79 rfl Try.ntmps79 (by kernel_rfl) rfl rfl rfl fun Γ hn => ?_
  unfold slices_ContainsFunc_api_Instr_api_Instr at h
  refine COk.seqQ fun Q3 qn3 qx3 qr3 => ?_
  refine gor hn ?_
  refine qn3 _ _ ?_
  refine COk.seqQ fun Q4 qn4 qx4 qr4 => ?_
  refine gor hn ?_
  obtain ⟨r1, hr2, h⟩ := bindM h
  show CallOk Try.prog _ _ _ _
  refine CallOk.as (slices_IndexFunc_api_Instr_api_Instr_ok N a0 g1 hg1 r1 hr2) (by repeat (first | exact trivial | exact rfl | (refine And.intro ?_ ?_))) trivial rfl ?_
  refine qn4 _ _ ?_
  refine got hn ?_
  obtain rfl := Option.some.inj h
  exact ⟨[], _, rfl, (by repeat (first | exact trivial | exact rfl | (refine And.intro ?_ ?_))), trivial, rfl, rfl, rfl, rfl, rfl⟩

/- choose.Leaf$1 -/
set_option maxRecDepth 100000 in
set_option maxHeartbeats 1000000 in
theorem choose_Leaf_1_ok (N : Nat) (a0 : Ins) (r : Bool) (h : choose_Leaf_1 N a0 = some r) : Spec Try.prog 80 [] [.agg (eIns a0)] (.bool r) [] [] := by
  refine Spec.of tabOk Try.func80 rfl Try.ntmps80 (by kernel_rfl) rfl rfl rfl fun Γ hn => ?_
  unfold choose_Leaf_1 at h
  refine COk.seqQ fun Q4 qn4 qx4 qr4 => ?_
  refine gor hn ?_
  refine qn4 _ _ ?_
  refine COk.seqQ fun Q5 qn5 qx5 qr5 => ?_
  obtain ⟨o3, h2, h⟩ := bindM h
  refine COk.joinR (ι := { s : Bool // o3 = s }) (fun s => [(2, .bool s.1)]) (fun s => []) (fun Q6 qn6 qx6 qr6 => ?_) (by intro s; rw [hn]; rfl) ?_
  · refine gor hn ?_
    refine bselM h2 (fun hb4 h2 => ?_) (fun hb4 h2 => ?_)
    · refine bselT hb4 ?_
      refine bselT hb4 ?_
      refine bselT hb4 ?_
      refine qn6 _ _ ?_
      obtain rfl := Option.some.inj h2
      refine EOk.done ?_
      exact ⟨⟨_, rfl⟩, [], trivial, ⟨⟨rfl, trivial⟩, trivial, rfl, rfl⟩⟩
    · refine bselF hb4 ?_
      refine bselF hb4 ?_
      refine bselF hb4 ?_
      refine qn6 _ _ ?_
      obtain rfl := Option.some.inj h2
      refine EOk.done ?_
      exact ⟨⟨_, rfl⟩, [], trivial, ⟨⟨rfl, trivial⟩, trivial, rfl, rfl⟩⟩
  rintro ⟨v1, hv_⟩
  replace hv_ := hv_.symm
  subst hv_
  refine qn5 _ _ ?_
  refine got hn ?_
  obtain rfl := Option.some.inj h
  exact ⟨[], _, rfl, (by repeat (first | exact trivial | exact rfl | (refine And.intro ?_ ?_))), trivial, rfl, rfl, rfl, rfl, rfl⟩

/- choose.Leaf -/
set_option maxRecDepth 100000 in
set_option maxHeartbeats 1000000 in
theorem choose_Leaf_ok (N : Nat) (a0 : Me) (r : Bool) (h : choose_Leaf N a0 = some r) : Spec Try.prog 57 [] [.agg (eMe a0)] (.bool r) [] [] := by
  refine Spec.of tabOk Try.func57 rfl Try.ntmps57 (by kernel_rfl) rfl rfl rfl fun Γ hn => ?_
  unfold choose_Leaf at h
  refine COk.seqQ fun Q4 qn4 qx4 qr4 => ?_
  refine gor hn ?_
  refine qn4 _ _ ?_
  refine COk.seqQ fun Q5 qn5 qx5 qr5 => ?_
  obtain ⟨o3, h2, h⟩ := bindM h
  refine COk.joinR (ι := { s : Bool // o3 = s }) (fun s => [(2, .bool s.1)]) (fun s => []) (fun Q6 qn6 qx6 qr6 => ?_) (by intro s; rw [hn]; rfl) ?_
  · refine gor hn ?_
    refine bselM h2 (fun hb4 h2 => ?_) (fun hb4 h2 => ?_)
    · refine bselT hb4 ?_
      refine bselT hb4 ?_
      obtain ⟨r5, hr6, h2⟩ := bindM h2
      show CallOk Try.prog _ _ _ _
      refine CallOk.as (slices_ContainsFunc_api_Instr_api_Instr_ok N a0.code (fun x0_ => choose_Leaf_1 N x0_) (fun x0_ y_ hy_ => choose_Leaf_1_ok N x0_ y_ hy_) r5 hr6) (by repeat (first | exact trivial | exact rfl | (refine And.intro ?_ ?_))) trivial rfl ?_
      refine bselT hb4 ?_
      refine bselT hb4 ?_
      refine qn6 _ _ ?_
      obtain rfl := Option.some.inj h2
      refine EOk.done ?_
      exact ⟨⟨_, rfl⟩, [], trivial, ⟨⟨rfl, trivial⟩, trivial, rfl, rfl⟩⟩
    · refine bselF hb4 ?_
      refine bselF hb4 ?_
      refine bselF hb4 ?_
      refine bselF hb4 ?_
      refine qn6 _ _ ?_
      obtain rfl := Option.some.inj h2
      refine EOk.done ?_
      exact ⟨⟨_, rfl⟩, [], trivial, ⟨⟨rfl, trivial⟩, trivial, rfl, rfl⟩⟩
  rintro ⟨v1, hv_⟩
  replace hv_ := hv_.symm
  subst hv_
  refine qn5 _ _ ?_
  refine got hn ?_
  obtain rfl := Option.some.inj h
  exact ⟨[], _, rfl, (by repeat (first | exact trivial | exact rfl | (refine And.intro ?_ ?_))), trivial, rfl, rfl, rfl, rfl, rfl⟩

/- inline.size -/
set_option maxRecDepth 100000 in
set_option maxHeartbeats 1000000 in
theorem inline_size_ok (N : Nat) (a0 : Me) (r : Int) (h : inline_size N a0 = some r) : Spec Try.prog 58 [] [.fp (eMe a0)] (.int r) [] [] := by
  refine Spec.of tabOk Try.func58 rfl Try.ntmps58 (by kernel_rfl) rfl rfl rfl fun Γ hn => ?_
  unfold inline_size at h
  refine COk.seqQ fun Q3 qn3 qx3 qr3 => ?_
  refine gor hn ?_
  refine qn3 _ _ ?_
  refine COk.seqQ fun Q4 qn4 qx4 qr4 => ?_
  refine COk.sub (ts2 := [(0, .fp (eMe a0))]) (os2 := []) [] ⟨⟨(by repeat (first | exact trivial | exact rfl | (refine And.intro ?_ ?_))), trivial⟩, trivial, rfl, rfl⟩ (by rw [hn]; rfl) ?_
  refine god hn (by kernel_rfl) ?_
  refine Or.inr ?_
  refine Or.inr ?_
  refine Or.inr ?_
  refine lenM (fun hl1 => ?_)
  refine Or.inr ?_
  refine qn4 _ _ ?_
  refine got hn ?_
  obtain rfl := Option.some.inj h
  exact ⟨[], _, rfl, (by repeat (first | exact trivial | exact rfl | (refine And.intro ?_ ?_))), trivial, rfl, rfl, rfl, rfl, rfl⟩

/- (*inline.writer).put -/
set_option maxRecDepth 100000 in
set_option maxHeartbeats 1000000 in
theorem inline_writer_put_ok (N : Nat) (a0 : TWriter) (a1 : Int) (a2 : Int) (a3 : Int) (a4 : Int) (r : TWriter) (h : inline_writer_put N a0 a1 a2 a3 a4 = some r) : Spec Try.prog 81 [(1000, .box [.fp (eWd a0.w), .fp (eMe a0.m), .own 1001, .int a0.temps, .own 1002, .own 1003] 107), (1001, .row 5 (List.map eIns a0.out) 62), (1002, .row 1 (List.map eInt a0.at_) 3), (1003, .row 1 (List.map eInt a0.fix) 3)] [.ptr 1000 0, .int a1, .int a2, .int a3, .int a4] (.tup []) [(1000, .box [.fp (eWd r.w), .fp (eMe r.m), .own 2, .int r.temps, .own 3, .own 4] 107), (2, .row 5 (List.map eIns r.out) 62), (1001, .gone), (3, .row 1 (List.map eInt r.at_) 3), (1002, .gone), (4, .row 1 (List.map eInt r.fix) 3), (1003, .gone)] [2, 3, 4] := by
  refine Spec.of tabOk Try.func81 rfl Try.ntmps81 (by kernel_rfl) rfl rfl rfl fun Γ hn => ?_
  unfold inline_writer_put at h
  refine COk.reidB 1000 2 1001 320 rfl rfl rfl rfl rfl rfl rfl rfl rfl ?_
  refine COk.reidB 1000 4 1002 321 rfl rfl rfl rfl rfl rfl rfl rfl rfl ?_
  refine COk.reidB 1000 5 1003 322 rfl rfl rfl rfl rfl rfl rfl rfl rfl ?_
  refine gor hn ?_
  refine Exists.intro (List.map eIns [(⟨a1, a2, a3, a4, ByteArray.empty⟩ : Ins)]) (And.intro (by repeat (first | exact trivial | exact rfl | (refine And.intro ?_ ?_))) ?_)
  obtain ⟨hg1, h⟩ := guardM h
  refine appM (l2 := [(⟨a1, a2, a3, a4, ByteArray.empty⟩ : Ins)]) hg1 (leLs_refl _) ?_
  obtain rfl := Option.some.inj h
  exact ⟨[(2, 21), (3, 321), (4, 322)], _, rfl, (by repeat (first | exact trivial | exact rfl | (refine And.intro ?_ ?_))), ⟨rfl, rfl, rfl, rfl, rfl, rfl, rfl, trivial⟩, rfl, rfl, rfl, rfl, rfl⟩

/- (*inline.writer).send -/
set_option maxRecDepth 100000 in
set_option maxHeartbeats 1000000 in
theorem inline_writer_send_ok (N : Nat) (a0 : TWriter) (a1 : Int) (a2 : Int) (a3 : Ins) (a4 : Me) (r : TWriter) (h : inline_writer_send N a0 a1 a2 a3 a4 = some r) : Spec Try.prog 59 [(1000, .box [.fp (eWd a0.w), .fp (eMe a0.m), .own 1001, .int a0.temps, .own 1002, .own 1003] 107), (1001, .row 5 (List.map eIns a0.out) 62), (1002, .row 1 (List.map eInt a0.at_) 3), (1003, .row 1 (List.map eInt a0.fix) 3)] [.ptr 1000 0, .int a1, .int a2, .agg (eIns a3), .fp (eMe a4)] (.tup []) [(1000, .box [.fp (eWd r.w), .fp (eMe r.m), .own 2, .int r.temps, .own 3, .own 4] 107), (2, .row 5 (List.map eIns r.out) 62), (1001, .gone), (3, .row 1 (List.map eInt r.at_) 3), (1002, .gone), (4, .row 1 (List.map eInt r.fix) 3), (1003, .gone)] [2, 3, 4] := by
  refine Spec.of tabOk Try.func59 rfl Try.ntmps59 (by kernel_rfl) rfl rfl rfl fun Γ hn => ?_
  unfold inline_writer_send at h
  refine COk.reidB 1000 2 1001 320 rfl rfl rfl rfl rfl rfl rfl rfl rfl ?_
  refine COk.reidB 1000 4 1002 321 rfl rfl rfl rfl rfl rfl rfl rfl rfl ?_
  refine COk.reidB 1000 5 1003 322 rfl rfl rfl rfl rfl rfl rfl rfl rfl ?_
  refine COk.seqQ fun Q43173 qn43173 qx43173 qr43173 => ?_
  refine gor hn ?_
  refine qn43173 _ _ ?_
  refine COk.seqQ fun Q43174 qn43174 qx43174 qr43174 => ?_
  refine gor hn ?_
  refine qn43174 _ _ ?_
  refine COk.seqQ fun Q43175 qn43175 qx43175 qr43175 => ?_
  refine COk.sub (ts2 := [(0, .ptr 1000 0), (1, .int a1), (2, .int a2), (4, .fp (eMe a4)), (8, .ptr 8 0), (10, .int a0.temps)]) (os2 := [(8, .box (eIns a3) 62), (320, .row 5 (List.map eIns a0.out) 62), (321, .row 1 (List.map eInt a0.at_) 3), (322, .row 1 (List.map eInt a0.fix) 3), (1000, .box [.fp (eWd a0.w), .fp (eMe a0.m), .own 320, .int a0.temps, .own 321, .own 322] 107), (1001, .gone), (1002, .gone), (1003, .gone)]) [] ⟨⟨rfl, rfl, rfl, (by repeat (first | exact trivial | exact rfl | (refine And.intro ?_ ?_))), rfl, rfl, trivial⟩, ⟨rfl, rfl, rfl, rfl, rfl, rfl, rfl, rfl, trivial⟩, rfl, rfl⟩ (by rw [hn]; rfl) ?_
  refine god hn (by kernel_rfl) ?_
  refine Or.inr ?_
  refine Or.inr ?_
  refine Or.inr ?_
  refine qn43175 _ _ ?_
  refine COk.seqQ fun Q43176 qn43176 qx43176 qr43176 => ?_
  refine COk.sub (ts2 := [(0, .ptr 1000 0), (1, .int a1), (2, .int a2), (4, .fp (eMe a4)), (8, .ptr 8 0), (10, .int a0.temps)]) (os2 := [(8, .box (eIns a3) 62), (320, .row 5 (List.map eIns a0.out) 62), (321, .row 1 (List.map eInt a0.at_) 3), (322, .row 1 (List.map eInt a0.fix) 3), (1000, .box [.fp (eWd a0.w), .fp (eMe a0.m), .own 320, .int (wr (a0.temps + (wr ((wr ((1 : Int) + a4.args)) + a4.temps)))), .own 321, .own 322] 107), (1001, .gone), (1002, .gone), (1003, .gone)]) [] ⟨⟨rfl, rfl, rfl, (by repeat (first | exact trivial | exact rfl | (refine And.intro ?_ ?_))), rfl, rfl, trivial⟩, ⟨rfl, rfl, rfl, rfl, rfl, rfl, rfl, rfl, trivial⟩, rfl, rfl⟩ (by rw [hn]; rfl) ?_
  refine gor hn ?_
  obtain ⟨r1, hr2, h⟩ := bindM h
  show CallOk Try.prog _ _ _ _
  refine CallOk.as (((((((inline_writer_put_ok N (⟨a0.w, a0.m, a0.out, (wr (a0.temps + (wr ((wr ((1 : Int) + a4.args)) + a4.temps)))), a0.at_, a0.fix⟩ : TWriter) (18 : Int) a1 a3.a a2 r1 hr2).sw 1001 320).sw 1002 321).sw 1003 322).sw 2 601).sw 3 602).sw 4 603) (by repeat (first | exact trivial | exact rfl | (refine And.intro ?_ ?_))) (by repeat (first | exact trivial | exact rfl | (refine And.intro ?_ ?_))) rfl ?_
  refine qn43176 _ _ ?_
  refine COk.seqQ fun Q43177 qn43177 qx43177 qr43177 => ?_
  refine gor hn ?_
  obtain ⟨r3, hr4, h⟩ := bindM h
  show CallOk Try.prog _ _ _ _
  refine CallOk.as (((((((inline_writer_put_ok N (⟨r1.w, r1.m, r1.out, r1.temps, r1.at_, r1.fix⟩ : TWriter) (21 : Int) (0 : Int) (0 : Int) (0 : Int) r3 hr4).sw 1001 601).sw 1002 602).sw 1003 603).sw 2 604).sw 3 605).sw 4 606) (by repeat (first | exact trivial | exact rfl | (refine And.intro ?_ ?_))) (by repeat (first | exact trivial | exact rfl | (refine And.intro ?_ ?_))) rfl ?_
  refine qn43177 _ _ ?_
  refine COk.seqQ fun Q43178 qn43178 qx43178 qr43178 => ?_
  refine COk.seqQ fun Q43179 qn43179 qx43179 qr43179 => ?_
  refine gor hn ?_
  refine qn43179 _ _ ?_
  obtain ⟨o26, h27, h⟩ := bindM h
  refine COk.joinR (ι := { s : (Wd × Me × (List Ins) × Int × (List Int) × (List Int)) // o26 = s }) (fun s => [(0, .ptr 1000 0), (4, .fp (eMe a4)), (10, .int a0.temps)]) (fun s => [(604, .row 5 (List.map eIns s.1.2.2.1) 62), (605, .row 1 (List.map eInt s.1.2.2.2.2.1) 3), (606, .row 1 (List.map eInt s.1.2.2.2.2.2) 3), (1000, .box [.fp (eWd s.1.1), .fp (eMe s.1.2.1), .own 604, .int s.1.2.2.2.1, .own 605, .own 606] 107), (1001, .gone), (1002, .gone), (1003, .gone)]) (fun Q43195 qn43195 qx43195 qr43195 => ?_) (by intro s; rw [hn]; rfl) ?_
  · refine COk.blkQ fun Q43196 qn43196 qe43196 qx43196 qr43196 => ?_
    refine COk.loopQ (ι := { q : (Nat × Wd × Me × (List Ins) × Int × (List Int) × (List Int) × Int) // inline_writer_send_l1 N a0 q.1 q.2.1 q.2.2.1 q.2.2.2.1 q.2.2.2.2.1 q.2.2.2.2.2.1 q.2.2.2.2.2.2.1 q.2.2.2.2.2.2.2 = some o26 }) (fun q => [(0, .ptr 1000 0), (4, .fp (eMe a4)), (10, .int a0.temps), (11, .int q.1.2.2.2.2.2.2.2)]) (fun q => [(604, .row 5 (List.map eIns q.1.2.2.2.1) 62), (605, .row 1 (List.map eInt q.1.2.2.2.2.2.1) 3), (606, .row 1 (List.map eInt q.1.2.2.2.2.2.2.1) 3), (1000, .box [.fp (eWd q.1.2.1), .fp (eMe q.1.2.2.1), .own 604, .int q.1.2.2.2.2.1, .own 605, .own 606] 107), (1001, .gone), (1002, .gone), (1003, .gone)]) (fun q => q.1.1) ⟨(N, r3.w, r3.m, r3.out, r3.temps, r3.at_, r3.fix, a4.args), h27⟩ [] ⟨⟨rfl, (by repeat (first | exact trivial | exact rfl | (refine And.intro ?_ ?_))), rfl, rfl, trivial⟩, ⟨rfl, rfl, rfl, rfl, rfl, rfl, rfl, trivial⟩, rfl, rfl⟩ (by intro q; rw [hn]; rfl) ?_
    rintro ⟨⟨n_, v6, v7, v8, v9, v10, v11, v12⟩, h27⟩ Q43197 qn43197 qx43197 qr43197
    rcases n_ with _ | n30
    · rw [inline_writer_send_l1.eq_1] at h27
      cases h27
    · replace h27 := (inline_writer_send_l1.eq_2 _ _ _ _ _ _ _ _ _ _).symm.trans h27
      refine COk.seqQ fun Q43198 qn43198 qx43198 qr43198 => ?_
      refine COk.seqQ fun Q43199 qn43199 qx43199 qr43199 => ?_
      refine gor hn ?_
      refine qn43199 _ _ ?_
      refine goc hn ?_
      refine bselM h27 (fun hb31 h27 => ?_) (fun hb31 h27 => ?_)
      · refine gok hn ?_
        refine qn43198 _ _ ?_
        refine COk.seqQ fun Q43200 qn43200 qx43200 qr43200 => ?_
        refine COk.blkQ fun Q43202 qn43202 qe43202 qx43202 qr43202 => ?_
        refine gor hn ?_
        refine Or.inr ?_
        obtain ⟨r32, hr33, h27⟩ := bindM h27
        show CallOk Try.prog _ _ _ _
        refine CallOk.as (((((((inline_writer_put_ok N (⟨v6, v7, v8, v9, v10, v11⟩ : TWriter) (11 : Int) (wr (a0.temps + v12)) (0 : Int) (0 : Int) r32 hr33).sw 1001 604).sw 1002 605).sw 1003 606).sw 2 607).sw 3 608).sw 4 609) (by repeat (first | exact trivial | exact rfl | (refine And.intro ?_ ?_))) (by repeat (first | exact trivial | exact rfl | (refine And.intro ?_ ?_))) rfl ?_
        refine qn43202 _ _ ?_
        refine qn43200 _ _ ?_
        refine gor hn ?_
        refine Or.inr ?_
        refine qn43197 _ _ ?_
        refine EOk.done ?_
        exact ⟨⟨(n30, r32.w, r32.m, r32.out, r32.temps, r32.at_, r32.fix, (wr (v12 - (1 : Int)))), h27⟩, [(604, 607), (605, 608), (606, 609)], by show n30 < n30 + 1; omega, ⟨⟨rfl, (by repeat (first | exact trivial | exact rfl | (refine And.intro ?_ ?_))), rfl, rfl, trivial⟩, ⟨rfl, rfl, rfl, rfl, rfl, rfl, rfl, trivial⟩, rfl, rfl⟩⟩
      · refine goe hn ?_
        refine qx43198 _ _ _ ?_
        refine qx43197 _ _ _ ?_
        refine qe43196 _ _ ?_
        refine qn43195 _ _ ?_
        obtain rfl := Option.some.inj h27
        refine EOk.done ?_
        exact ⟨⟨_, rfl⟩, [], trivial, ⟨⟨rfl, (by repeat (first | exact trivial | exact rfl | (refine And.intro ?_ ?_))), rfl, trivial⟩, ⟨rfl, rfl, rfl, rfl, rfl, rfl, rfl, trivial⟩, rfl, rfl⟩⟩
  rintro ⟨⟨v20, v21, v22, v23, v24, v25⟩, rfl⟩
  refine qn43178 _ _ ?_
  refine COk.seqQ fun Q43203 qn43203 qx43203 qr43203 => ?_
  refine COk.seqQ fun Q43204 qn43204 qx43204 qr43204 => ?_
  refine gor hn ?_
  refine qn43204 _ _ ?_
  refine COk.rng 61 rfl (fun hrn => ?_)
  obtain ⟨o53, h54, h⟩ := bindM h
  refine COk.joinR (ι := { s : (Wd × Me × (List Ins) × Int × (List Int) × (List Int)) // o53 = s }) (fun s => [(0, .ptr 1000 0), (4, .fp (eMe a4)), (10, .int a0.temps)]) (fun s => [(604, .row 5 (List.map eIns s.1.2.2.1) 62), (605, .row 1 (List.map eInt s.1.2.2.2.2.1) 3), (606, .row 1 (List.map eInt s.1.2.2.2.2.2) 3), (1000, .box [.fp (eWd s.1.1), .fp (eMe s.1.2.1), .own 604, .int s.1.2.2.2.1, .own 605, .own 606] 107), (1001, .gone), (1002, .gone), (1003, .gone)]) (fun Q43232 qn43232 qx43232 qr43232 => ?_) (by intro s; rw [hn]; rfl) ?_
  · refine COk.blkQ fun Q43233 qn43233 qe43233 qx43233 qr43233 => ?_
    refine COk.loopQ (ι := { q : (Nat × Nat × Wd × Me × (List Ins) × Int × (List Int) × (List Int)) // q.1 = (a4.temps - (q.2.1 : Int)).toNat ∧ inline_writer_send_l2 N a0 a4 q.1 q.2.1 q.2.2.1 q.2.2.2.1 q.2.2.2.2.1 q.2.2.2.2.2.1 q.2.2.2.2.2.2.1 q.2.2.2.2.2.2.2 = some o53 }) (fun q => [(0, .ptr 1000 0), (4, .fp (eMe a4)), (10, .int a0.temps), (61, .int a4.temps), (62, .int (q.1.2.1 : Int))]) (fun q => [(604, .row 5 (List.map eIns q.1.2.2.2.2.1) 62), (605, .row 1 (List.map eInt q.1.2.2.2.2.2.2.1) 3), (606, .row 1 (List.map eInt q.1.2.2.2.2.2.2.2) 3), (1000, .box [.fp (eWd q.1.2.2.1), .fp (eMe q.1.2.2.2.1), .own 604, .int q.1.2.2.2.2.2.1, .own 605, .own 606] 107), (1001, .gone), (1002, .gone), (1003, .gone)]) (fun q => q.1.1) ⟨((a4.temps - ((0 : Nat) : Int)).toNat, 0, v20, v21, v22, v23, v24, v25), rfl, h54⟩ [] ⟨⟨rfl, (by repeat (first | exact trivial | exact rfl | (refine And.intro ?_ ?_))), rfl, rfl, rfl, trivial⟩, ⟨rfl, rfl, rfl, rfl, rfl, rfl, rfl, trivial⟩, rfl, rfl⟩ (by intro q; rw [hn]; rfl) ?_
    rintro ⟨⟨n_, k34, v35, v36, v37, v38, v39, v40⟩, hd56, h54⟩ Q43234 qn43234 qx43234 qr43234
    replace hd56 : n_ = (a4.temps - (k34 : Int)).toNat := hd56
    rcases n_ with _ | n57
    · have hlt60 := upNil hd56
      replace h54 := (inline_writer_send_l2.eq_1 _ _ _ _ _ _ _ _ _ _).symm.trans h54
      refine COk.seqQ fun Q43235 qn43235 qx43235 qr43235 => ?_
      refine gor hn ?_
      refine qn43235 _ _ ?_
      refine COk.seqQ fun Q43236 qn43236 qx43236 qr43236 => ?_
      refine goc hn ?_
      refine bselF hlt60 ?_
      refine goe hn ?_
      refine qx43236 _ _ _ ?_
      refine qx43234 _ _ _ ?_
      refine qe43233 _ _ ?_
      refine qn43232 _ _ ?_
      obtain rfl := Option.some.inj h54
      refine EOk.done ?_
      exact ⟨⟨_, rfl⟩, [], trivial, ⟨⟨rfl, (by repeat (first | exact trivial | exact rfl | (refine And.intro ?_ ?_))), rfl, trivial⟩, ⟨rfl, rfl, rfl, rfl, rfl, rfl, rfl, trivial⟩, rfl, rfl⟩⟩
    · obtain ⟨hd2, hlt60⟩ := upCons hd56
      replace h54 := (inline_writer_send_l2.eq_2 _ _ _ _ _ _ _ _ _ _ _).symm.trans h54
      refine COk.seqQ fun Q43237 qn43237 qx43237 qr43237 => ?_
      refine gor hn ?_
      refine qn43237 _ _ ?_
      refine COk.seqQ fun Q43238 qn43238 qx43238 qr43238 => ?_
      refine goc hn ?_
      refine bselT hlt60 ?_
      refine gok hn ?_
      refine qn43238 _ _ ?_
      refine COk.seqQ fun Q43239 qn43239 qx43239 qr43239 => ?_
      refine COk.blkQ fun Q43243 qn43243 qe43243 qx43243 qr43243 => ?_
      refine COk.seqQ fun Q43244 qn43244 qx43244 qr43244 => ?_
      refine gor hn ?_
      refine qn43244 _ _ ?_
      refine COk.seqQ fun Q43245 qn43245 qx43245 qr43245 => ?_
      refine gor hn ?_
      obtain ⟨r61, hr62, h54⟩ := bindM h54
      show CallOk Try.prog _ _ _ _
      refine CallOk.as (((((((inline_writer_put_ok N (⟨v35, v36, v37, v38, v39, v40⟩ : TWriter) (6 : Int) (0 : Int) (0 : Int) (0 : Int) r61 hr62).sw 1001 604).sw 1002 605).sw 1003 606).sw 2 610).sw 3 611).sw 4 612) (by repeat (first | exact trivial | exact rfl | (refine And.intro ?_ ?_))) (by repeat (first | exact trivial | exact rfl | (refine And.intro ?_ ?_))) rfl ?_
      refine qn43245 _ _ ?_
      refine gor hn ?_
      refine Or.inr ?_
      refine Or.inr ?_
      refine Or.inr ?_
      obtain ⟨r63, hr64, h54⟩ := bindM h54
      show CallOk Try.prog _ _ _ _
      refine CallOk.as (((((((inline_writer_put_ok N (⟨r61.w, r61.m, r61.out, r61.temps, r61.at_, r61.fix⟩ : TWriter) (11 : Int) (wr ((wr ((wr (a0.temps + (1 : Int))) + a4.args)) + (k34 : Int))) (0 : Int) (0 : Int) r63 hr64).sw 1001 610).sw 1002 611).sw 1003 612).sw 2 613).sw 3 614).sw 4 615) (by repeat (first | exact trivial | exact rfl | (refine And.intro ?_ ?_))) (by repeat (first | exact trivial | exact rfl | (refine And.intro ?_ ?_))) rfl ?_
      refine qn43243 _ _ ?_
      refine qn43239 _ _ ?_
      refine COk.sub (ts2 := [(0, .ptr 1000 0), (4, .fp (eMe a4)), (10, .int a0.temps), (61, .int a4.temps), (62, .int (k34 : Int))]) (os2 := [(613, .row 5 (List.map eIns r63.out) 62), (614, .row 1 (List.map eInt r63.at_) 3), (615, .row 1 (List.map eInt r63.fix) 3), (1000, .box [.fp (eWd r63.w), .fp (eMe r63.m), .own 613, .int r63.temps, .own 614, .own 615] 107), (1001, .gone), (1002, .gone), (1003, .gone)]) [] ⟨⟨rfl, (by repeat (first | exact trivial | exact rfl | (refine And.intro ?_ ?_))), rfl, rfl, rfl, trivial⟩, ⟨rfl, rfl, rfl, rfl, rfl, rfl, rfl, trivial⟩, rfl, rfl⟩ (by rw [hn]; rfl) ?_
      refine gor hn ?_
      refine Or.inl (And.intro (inrU hlt60 hrn) ?_)
      refine qn43234 _ _ ?_
      refine EOk.done ?_
      exact ⟨⟨(n57, k34 + 1, r63.w, r63.m, r63.out, r63.temps, r63.at_, r63.fix), hd2, h54⟩, [(604, 613), (605, 614), (606, 615)], by show n57 < n57 + 1; omega, ⟨⟨rfl, (by repeat (first | exact trivial | exact rfl | (refine And.intro ?_ ?_))), rfl, rfl, rfl, trivial⟩, ⟨rfl, rfl, rfl, rfl, rfl, rfl, rfl, trivial⟩, rfl, rfl⟩⟩
  rintro ⟨⟨v47, v48, v49, v50, v51, v52⟩, rfl⟩
  refine qn43203 _ _ ?_
  refine COk.seqQ fun Q43246 qn43246 qx43246 qr43246 => ?_
  refine gor hn ?_
  refine lenM (fun hl65 => ?_)
  refine qn43246 _ _ ?_
  refine COk.seqQ fun Q43247 qn43247 qx43247 qr43247 => ?_
  refine gor hn ?_
  refine lenM (fun hl66 => ?_)
  refine qn43247 _ _ ?_
  obtain ⟨o86, h87, h⟩ := bindM h
  refine COk.joinR (ι := { s : (Wd × Me × (List Ins) × Int × (List Int) × (List Int)) // o86 = s }) (fun s => [(0, .ptr 1000 0)]) (fun s => [(604, .row 5 (List.map eIns s.1.2.2.1) 62), (605, .row 1 (List.map eInt s.1.2.2.2.2.1) 3), (606, .row 1 (List.map eInt s.1.2.2.2.2.2) 3), (1000, .box [.fp (eWd s.1.1), .fp (eMe s.1.2.1), .own 604, .int s.1.2.2.2.1, .own 605, .own 606] 107), (1001, .gone), (1002, .gone), (1003, .gone)]) (fun Q75567 qn75567 qx75567 qr75567 => ?_) (by intro s; rw [hn]; rfl) ?_
  · refine COk.blkQ fun Q75568 qn75568 qe75568 qx75568 qr75568 => ?_
    refine COk.loopQ (ι := { q : ((List Ins) × Nat × Wd × Me × (List Ins) × Int × (List Int) × (List Int)) // q.1 = a4.code.drop q.2.1 ∧ inline_writer_send_l3 N a0 a4 v49 q.1 q.2.1 q.2.2.1 q.2.2.2.1 q.2.2.2.2.1 q.2.2.2.2.2.1 q.2.2.2.2.2.2.1 q.2.2.2.2.2.2.2 = some o86 }) (fun q => [(0, .ptr 1000 0), (4, .fp (eMe a4)), (10, .int a0.temps), (13, .int (v49.length : Int)), (87, .sl 5 (List.map eIns a4.code)), (88, .int (a4.code.length : Int)), (89, .int (q.1.2.1 : Int))]) (fun q => [(604, .row 5 (List.map eIns q.1.2.2.2.2.1) 62), (605, .row 1 (List.map eInt q.1.2.2.2.2.2.2.1) 3), (606, .row 1 (List.map eInt q.1.2.2.2.2.2.2.2) 3), (1000, .box [.fp (eWd q.1.2.2.1), .fp (eMe q.1.2.2.2.1), .own 604, .int q.1.2.2.2.2.2.1, .own 605, .own 606] 107), (1001, .gone), (1002, .gone), (1003, .gone)]) (fun q => q.1.1.length) ⟨(a4.code, 0, v47, v48, v49, v50, v51, v52), rfl, h87⟩ [] ⟨⟨rfl, (by repeat (first | exact trivial | exact rfl | (refine And.intro ?_ ?_))), rfl, rfl, (by repeat (first | exact trivial | exact rfl | (refine And.intro ?_ ?_))), rfl, rfl, trivial⟩, ⟨rfl, rfl, rfl, rfl, rfl, rfl, rfl, trivial⟩, rfl, rfl⟩ (by intro q; rw [hn]; rfl) ?_
    rintro ⟨⟨rest_, k67, v68, v69, v70, v71, v72, v73⟩, hd89, h87⟩ Q75569 qn75569 qx75569 qr75569
    replace hd89 : rest_ = a4.code.drop k67 := hd89
    rcases rest_ with _ | ⟨x91, rest88⟩
    · have hlt93 := restNil hd89
      replace h87 := (inline_writer_send_l3.eq_1 _ _ _ _ _ _ _ _ _ _ _).symm.trans h87
      refine COk.seqQ fun Q75570 qn75570 qx75570 qr75570 => ?_
      refine gor hn ?_
      refine qn75570 _ _ ?_
      refine COk.seqQ fun Q75571 qn75571 qx75571 qr75571 => ?_
      refine goc hn ?_
      refine bselF hlt93 ?_
      refine goe hn ?_
      refine qx75571 _ _ _ ?_
      refine qx75569 _ _ _ ?_
      refine qe75568 _ _ ?_
      refine qn75567 _ _ ?_
      obtain rfl := Option.some.inj h87
      refine EOk.done ?_
      exact ⟨⟨_, rfl⟩, [], trivial, ⟨⟨rfl, trivial⟩, ⟨rfl, rfl, rfl, rfl, rfl, rfl, rfl, trivial⟩, rfl, rfl⟩⟩
    · obtain ⟨hx92, hd2, hlt93⟩ := restCons hd89
      replace h87 := (inline_writer_send_l3.eq_2 _ _ _ _ _ _ _ _ _ _ _ _ _).symm.trans h87
      refine COk.seqQ fun Q75572 qn75572 qx75572 qr75572 => ?_
      refine gor hn ?_
      refine qn75572 _ _ ?_
      refine COk.seqQ fun Q75573 qn75573 qx75573 qr75573 => ?_
      refine goc hn ?_
      refine bselT hlt93 ?_
      refine gok hn ?_
      refine qn75573 _ _ ?_
      refine COk.seqQ fun Q75574 qn75574 qx75574 qr75574 => ?_
      refine COk.blkQ fun Q80960 qn80960 qe80960 qx80960 qr80960 => ?_
      refine COk.seqQ fun Q80961 qn80961 qx80961 qr80961 => ?_
      refine gor hn ?_
      refine idxK hx92 ?_
      refine qn80961 _ _ ?_
      refine COk.seqQ fun Q80962 qn80962 qx80962 qr80962 => ?_
      refine gor hn ?_
      refine qn80962 _ _ ?_
      refine COk.blkQ fun Q83654 qn83654 qe83654 qx83654 qr83654 => ?_
      refine COk.seqQ fun Q83655 qn83655 qx83655 qr83655 => ?_
      refine gor hn ?_
      refine qn83655 _ _ ?_
      obtain ⟨o101, h100, h87⟩ := bindM h87
      refine COk.joinR (ι := { s : (Wd × Me × (List Ins) × Int × (List Int) × (List Int)) // o101 = s }) (fun s => [(0, .ptr 1000 0), (4, .fp (eMe a4)), (10, .int a0.temps), (13, .int (v49.length : Int)), (87, .sl 5 (List.map eIns a4.code)), (88, .int (a4.code.length : Int)), (89, .int (k67 : Int))]) (fun s => [(616, .row 5 (List.map eIns s.1.2.2.1) 62), (617, .row 1 (List.map eInt s.1.2.2.2.2.1) 3), (618, .row 1 (List.map eInt s.1.2.2.2.2.2) 3), (1000, .box [.fp (eWd s.1.1), .fp (eMe s.1.2.1), .own 616, .int s.1.2.2.2.1, .own 617, .own 618] 107), (1001, .gone), (1002, .gone), (1003, .gone)]) (fun Q85448 qn85448 qx85448 qr85448 => ?_) (by intro s; rw [hn]; rfl) ?_
      · refine goc hn ?_
        refine bselM h100 (fun hb102 h100 => ?_) (fun hb102 h100 => ?_)
        · refine gor hn ?_
          obtain ⟨r103, hr104, h100⟩ := bindM h100
          show CallOk Try.prog _ _ _ _
          refine CallOk.as (((((((inline_writer_put_ok N (⟨v68, v69, v70, v71, v72, v73⟩ : TWriter) (3 : Int) a0.temps (0 : Int) (0 : Int) r103 hr104).sw 1001 604).sw 1002 605).sw 1003 606).sw 2 616).sw 3 617).sw 4 618) (by repeat (first | exact trivial | exact rfl | (refine And.intro ?_ ?_))) (by repeat (first | exact trivial | exact rfl | (refine And.intro ?_ ?_))) rfl ?_
          refine qn85448 _ _ ?_
          obtain rfl := Option.some.inj h100
          refine EOk.done ?_
          exact ⟨⟨_, rfl⟩, [], trivial, ⟨⟨rfl, (by repeat (first | exact trivial | exact rfl | (refine And.intro ?_ ?_))), rfl, rfl, (by repeat (first | exact trivial | exact rfl | (refine And.intro ?_ ?_))), rfl, rfl, trivial⟩, ⟨rfl, rfl, rfl, rfl, rfl, rfl, rfl, trivial⟩, rfl, rfl⟩⟩
        · refine COk.seqQ fun Q85449 qn85449 qx85449 qr85449 => ?_
          refine gor hn ?_
          refine qn85449 _ _ ?_
          obtain ⟨o112, h111, h100⟩ := bindM h100
          refine COk.joinR (ι := { s : (Wd × Me × (List Ins) × Int × (List Int) × (List Int)) // o112 = s }) (fun s => [(0, .ptr 1000 0), (4, .fp (eMe a4)), (10, .int a0.temps), (13, .int (v49.length : Int)), (87, .sl 5 (List.map eIns a4.code)), (88, .int (a4.code.length : Int)), (89, .int (k67 : Int))]) (fun s => [(619, .row 5 (List.map eIns s.1.2.2.1) 62), (620, .row 1 (List.map eInt s.1.2.2.2.2.1) 3), (621, .row 1 (List.map eInt s.1.2.2.2.2.2) 3), (1000, .box [.fp (eWd s.1.1), .fp (eMe s.1.2.1), .own 619, .int s.1.2.2.2.1, .own 620, .own 621] 107), (1001, .gone), (1002, .gone), (1003, .gone)]) (fun Q86046 qn86046 qx86046 qr86046 => ?_) (by intro s; rw [hn]; rfl) ?_
          · refine goc hn ?_
            refine bselM h111 (fun hb113 h111 => ?_) (fun hb113 h111 => ?_)
            · refine COk.sub (ts2 := [(0, .ptr 1000 0), (4, .fp (eMe a4)), (10, .int a0.temps), (13, .int (v49.length : Int)), (15, .ptr 15 0), (87, .sl 5 (List.map eIns a4.code)), (88, .int (a4.code.length : Int)), (89, .int (k67 : Int))]) (os2 := [(15, .box (eIns x91) 62), (604, .row 5 (List.map eIns v70) 62), (605, .row 1 (List.map eInt v72) 3), (606, .row 1 (List.map eInt v73) 3), (1000, .box [.fp (eWd v68), .fp (eMe v69), .own 604, .int v71, .own 605, .own 606] 107), (1001, .gone), (1002, .gone), (1003, .gone)]) [] ⟨⟨rfl, (by repeat (first | exact trivial | exact rfl | (refine And.intro ?_ ?_))), rfl, rfl, rfl, (by repeat (first | exact trivial | exact rfl | (refine And.intro ?_ ?_))), rfl, rfl, trivial⟩, ⟨rfl, rfl, rfl, rfl, rfl, rfl, rfl, rfl, trivial⟩, rfl, rfl⟩ (by rw [hn]; rfl) ?_
              refine gor hn ?_
              refine Or.inr ?_
              refine Or.inr ?_
              obtain ⟨r114, hr115, h111⟩ := bindM h111
              show CallOk Try.prog _ _ _ _
              refine CallOk.as (((((((inline_writer_put_ok N (⟨v68, v69, v70, v71, v72, v73⟩ : TWriter) (3 : Int) (wr ((wr (a0.temps + (1 : Int))) + x91.a)) (0 : Int) (0 : Int) r114 hr115).sw 1001 604).sw 1002 605).sw 1003 606).sw 2 619).sw 3 620).sw 4 621) (by repeat (first | exact trivial | exact rfl | (refine And.intro ?_ ?_))) (by repeat (first | exact trivial | exact rfl | (refine And.intro ?_ ?_))) rfl ?_
              refine qn86046 _ _ ?_
              obtain rfl := Option.some.inj h111
              refine EOk.done ?_
              exact ⟨⟨_, rfl⟩, [], trivial, ⟨⟨rfl, (by repeat (first | exact trivial | exact rfl | (refine And.intro ?_ ?_))), rfl, rfl, (by repeat (first | exact trivial | exact rfl | (refine And.intro ?_ ?_))), rfl, rfl, trivial⟩, ⟨rfl, rfl, rfl, rfl, rfl, rfl, rfl, trivial⟩, rfl, rfl⟩⟩
            · refine COk.seqQ fun Q86047 qn86047 qx86047 qr86047 => ?_
              refine COk.seqQ fun Q86048 qn86048 qx86048 qr86048 => ?_
              refine COk.sub (ts2 := [(0, .ptr 1000 0), (4, .fp (eMe a4)), (10, .int a0.temps), (13, .int (v49.length : Int)), (15, .ptr 15 0), (87, .sl 5 (List.map eIns a4.code)), (88, .int (a4.code.length : Int)), (89, .int (k67 : Int)), (94, .int x91.op)]) (os2 := [(15, .box (eIns x91) 62), (604, .row 5 (List.map eIns v70) 62), (605, .row 1 (List.map eInt v72) 3), (606, .row 1 (List.map eInt v73) 3), (1000, .box [.fp (eWd v68), .fp (eMe v69), .own 604, .int v71, .own 605, .own 606] 107), (1001, .gone), (1002, .gone), (1003, .gone)]) [] ⟨⟨rfl, (by repeat (first | exact trivial | exact rfl | (refine And.intro ?_ ?_))), rfl, rfl, rfl, (by repeat (first | exact trivial | exact rfl | (refine And.intro ?_ ?_))), rfl, rfl, rfl, trivial⟩, ⟨rfl, rfl, rfl, rfl, rfl, rfl, rfl, rfl, trivial⟩, rfl, rfl⟩ (by rw [hn]; rfl) ?_
              refine gor hn ?_
              refine qn86048 _ _ ?_
              obtain ⟨o118, h117, h111⟩ := bindM h111
              refine COk.joinR (ι := { s : Bool // o118 = s }) (fun s => [(0, .ptr 1000 0), (4, .fp (eMe a4)), (10, .int a0.temps), (13, .int (v49.length : Int)), (15, .ptr 15 0), (87, .sl 5 (List.map eIns a4.code)), (88, .int (a4.code.length : Int)), (89, .int (k67 : Int)), (94, .int x91.op), (115, .bool s.1)]) (fun s => [(15, .box (eIns x91) 62), (604, .row 5 (List.map eIns v70) 62), (605, .row 1 (List.map eInt v72) 3), (606, .row 1 (List.map eInt v73) 3), (1000, .box [.fp (eWd v68), .fp (eMe v69), .own 604, .int v71, .own 605, .own 606] 107), (1001, .gone), (1002, .gone), (1003, .gone)]) (fun Q86049 qn86049 qx86049 qr86049 => ?_) (by intro s; rw [hn]; rfl) ?_
              · refine goc hn ?_
                refine bselM h117 (fun hb119 h117 => ?_) (fun hb119 h117 => ?_)
                · refine gok hn ?_
                  refine qn86049 _ _ ?_
                  obtain rfl := Option.some.inj h117
                  refine EOk.done ?_
                  exact ⟨⟨_, rfl⟩, [], trivial, ⟨⟨rfl, (by repeat (first | exact trivial | exact rfl | (refine And.intro ?_ ?_))), rfl, rfl, rfl, (by repeat (first | exact trivial | exact rfl | (refine And.intro ?_ ?_))), rfl, rfl, rfl, rfl, trivial⟩, ⟨rfl, rfl, rfl, rfl, rfl, rfl, rfl, rfl, trivial⟩, rfl, rfl⟩⟩
                · refine gor hn ?_
                  refine qn86049 _ _ ?_
                  obtain rfl := Option.some.inj h117
                  refine EOk.done ?_
                  exact ⟨⟨_, rfl⟩, [], trivial, ⟨⟨rfl, (by repeat (first | exact trivial | exact rfl | (refine And.intro ?_ ?_))), rfl, rfl, rfl, (by repeat (first | exact trivial | exact rfl | (refine And.intro ?_ ?_))), rfl, rfl, rfl, rfl, trivial⟩, ⟨rfl, rfl, rfl, rfl, rfl, rfl, rfl, rfl, trivial⟩, rfl, rfl⟩⟩
              rintro ⟨v116, hv_⟩
              replace hv_ := hv_.symm
              subst hv_
              refine qn86047 _ _ ?_
              obtain ⟨o127, h126, h111⟩ := bindM h111
              refine COk.joinR (ι := { s : (Wd × Me × (List Ins) × Int × (List Int) × (List Int)) // o127 = s }) (fun s => [(0, .ptr 1000 0), (4, .fp (eMe a4)), (10, .int a0.temps), (13, .int (v49.length : Int)), (87, .sl 5 (List.map eIns a4.code)), (88, .int (a4.code.length : Int)), (89, .int (k67 : Int))]) (fun s => [(622, .row 5 (List.map eIns s.1.2.2.1) 62), (623, .row 1 (List.map eInt s.1.2.2.2.2.1) 3), (624, .row 1 (List.map eInt s.1.2.2.2.2.2) 3), (1000, .box [.fp (eWd s.1.1), .fp (eMe s.1.2.1), .own 622, .int s.1.2.2.2.1, .own 623, .own 624] 107), (1001, .gone), (1002, .gone), (1003, .gone)]) (fun Q86246 qn86246 qx86246 qr86246 => ?_) (by intro s; rw [hn]; rfl) ?_
              · refine goc hn ?_
                refine bselM h126 (fun hb128 h126 => ?_) (fun hb128 h126 => ?_)
                · refine god hn (by kernel_rfl) ?_
                  refine Or.inr ?_
                  refine Or.inr ?_
                  refine Or.inr ?_
                  obtain ⟨r129, hr130, h126⟩ := bindM h126
                  show CallOk Try.prog _ _ _ _
                  refine CallOk.as (((((((inline_writer_put_ok N (⟨v68, v69, v70, v71, v72, v73⟩ : TWriter) x91.op (wr ((wr ((wr (a0.temps + (1 : Int))) + a4.args)) + x91.a)) (0 : Int) (0 : Int) r129 hr130).sw 1001 604).sw 1002 605).sw 1003 606).sw 2 622).sw 3 623).sw 4 624) (by repeat (first | exact trivial | exact rfl | (refine And.intro ?_ ?_))) (by repeat (first | exact trivial | exact rfl | (refine And.intro ?_ ?_))) rfl ?_
                  refine qn86246 _ _ ?_
                  obtain rfl := Option.some.inj h126
                  refine EOk.done ?_
                  exact ⟨⟨_, rfl⟩, [], trivial, ⟨⟨rfl, (by repeat (first | exact trivial | exact rfl | (refine And.intro ?_ ?_))), rfl, rfl, (by repeat (first | exact trivial | exact rfl | (refine And.intro ?_ ?_))), rfl, rfl, trivial⟩, ⟨rfl, rfl, rfl, rfl, rfl, rfl, rfl, trivial⟩, rfl, rfl⟩⟩
                · refine COk.seqQ fun Q86247 qn86247 qx86247 qr86247 => ?_
                  refine gor hn ?_
                  refine qn86247 _ _ ?_
                  obtain ⟨o138, h137, h126⟩ := bindM h126
                  refine COk.joinR (ι := { s : (Wd × Me × (List Ins) × Int × (List Int) × (List Int)) // o138 = s }) (fun s => [(0, .ptr 1000 0), (4, .fp (eMe a4)), (10, .int a0.temps), (13, .int (v49.length : Int)), (87, .sl 5 (List.map eIns a4.code)), (88, .int (a4.code.length : Int)), (89, .int (k67 : Int))]) (fun s => [(625, .row 5 (List.map eIns s.1.2.2.1) 62), (626, .row 1 (List.map eInt s.1.2.2.2.2.1) 3), (627, .row 1 (List.map eInt s.1.2.2.2.2.2) 3), (1000, .box [.fp (eWd s.1.1), .fp (eMe s.1.2.1), .own 625, .int s.1.2.2.2.1, .own 626, .own 627] 107), (1001, .gone), (1002, .gone), (1003, .gone)]) (fun Q86312 qn86312 qx86312 qr86312 => ?_) (by intro s; rw [hn]; rfl) ?_
                  · refine goc hn ?_
                    refine bselM h137 (fun hb139 h137 => ?_) (fun hb139 h137 => ?_)
                    · refine gor hn ?_
                      obtain ⟨r140, hr141, h137⟩ := bindM h137
                      show CallOk Try.prog _ _ _ _
                      refine CallOk.as (((((((inline_writer_put_ok N (⟨v68, v69, v70, v71, v72, v73⟩ : TWriter) (19 : Int) a0.temps x91.a (0 : Int) r140 hr141).sw 1001 604).sw 1002 605).sw 1003 606).sw 2 625).sw 3 626).sw 4 627) (by repeat (first | exact trivial | exact rfl | (refine And.intro ?_ ?_))) (by repeat (first | exact trivial | exact rfl | (refine And.intro ?_ ?_))) rfl ?_
                      refine qn86312 _ _ ?_
                      obtain rfl := Option.some.inj h137
                      refine EOk.done ?_
                      exact ⟨⟨_, rfl⟩, [], trivial, ⟨⟨rfl, (by repeat (first | exact trivial | exact rfl | (refine And.intro ?_ ?_))), rfl, rfl, (by repeat (first | exact trivial | exact rfl | (refine And.intro ?_ ?_))), rfl, rfl, trivial⟩, ⟨rfl, rfl, rfl, rfl, rfl, rfl, rfl, trivial⟩, rfl, rfl⟩⟩
                    · refine COk.seqQ fun Q86313 qn86313 qx86313 qr86313 => ?_
                      refine gor hn ?_
                      refine qn86313 _ _ ?_
                      obtain ⟨o149, h148, h137⟩ := bindM h137
                      refine COk.joinR (ι := { s : (Wd × Me × (List Ins) × Int × (List Int) × (List Int)) // o149 = s }) (fun s => [(0, .ptr 1000 0), (4, .fp (eMe a4)), (10, .int a0.temps), (13, .int (v49.length : Int)), (87, .sl 5 (List.map eIns a4.code)), (88, .int (a4.code.length : Int)), (89, .int (k67 : Int))]) (fun s => [(628, .row 5 (List.map eIns s.1.2.2.1) 62), (629, .row 1 (List.map eInt s.1.2.2.2.2.1) 3), (630, .row 1 (List.map eInt s.1.2.2.2.2.2) 3), (1000, .box [.fp (eWd s.1.1), .fp (eMe s.1.2.1), .own 628, .int s.1.2.2.2.1, .own 629, .own 630] 107), (1001, .gone), (1002, .gone), (1003, .gone)]) (fun Q86334 qn86334 qx86334 qr86334 => ?_) (by intro s; rw [hn]; rfl) ?_
                      · refine goc hn ?_
                        refine bselM h148 (fun hb150 h148 => ?_) (fun hb150 h148 => ?_)
                        · refine gor hn ?_
                          obtain ⟨r151, hr152, h148⟩ := bindM h148
                          show CallOk Try.prog _ _ _ _
                          refine CallOk.as (((((((inline_writer_put_ok N (⟨v68, v69, v70, v71, v72, v73⟩ : TWriter) (20 : Int) a0.temps x91.a (0 : Int) r151 hr152).sw 1001 604).sw 1002 605).sw 1003 606).sw 2 628).sw 3 629).sw 4 630) (by repeat (first | exact trivial | exact rfl | (refine And.intro ?_ ?_))) (by repeat (first | exact trivial | exact rfl | (refine And.intro ?_ ?_))) rfl ?_
                          refine qn86334 _ _ ?_
                          obtain rfl := Option.some.inj h148
                          refine EOk.done ?_
                          exact ⟨⟨_, rfl⟩, [], trivial, ⟨⟨rfl, (by repeat (first | exact trivial | exact rfl | (refine And.intro ?_ ?_))), rfl, rfl, (by repeat (first | exact trivial | exact rfl | (refine And.intro ?_ ?_))), rfl, rfl, trivial⟩, ⟨rfl, rfl, rfl, rfl, rfl, rfl, rfl, trivial⟩, rfl, rfl⟩⟩
                        · refine COk.seqQ fun Q86335 qn86335 qx86335 qr86335 => ?_
                          refine COk.seqQ fun Q86336 qn86336 qx86336 qr86336 => ?_
                          refine gor hn ?_
                          refine qn86336 _ _ ?_
                          obtain ⟨o155, h154, h148⟩ := bindM h148
                          refine COk.joinR (ι := { s : Bool // o155 = s }) (fun s => [(0, .ptr 1000 0), (4, .fp (eMe a4)), (10, .int a0.temps), (13, .int (v49.length : Int)), (15, .ptr 15 0), (87, .sl 5 (List.map eIns a4.code)), (88, .int (a4.code.length : Int)), (89, .int (k67 : Int)), (94, .int x91.op), (146, .bool s.1)]) (fun s => [(15, .box (eIns x91) 62), (604, .row 5 (List.map eIns v70) 62), (605, .row 1 (List.map eInt v72) 3), (606, .row 1 (List.map eInt v73) 3), (1000, .box [.fp (eWd v68), .fp (eMe v69), .own 604, .int v71, .own 605, .own 606] 107), (1001, .gone), (1002, .gone), (1003, .gone)]) (fun Q86337 qn86337 qx86337 qr86337 => ?_) (by intro s; rw [hn]; rfl) ?_
                          · refine goc hn ?_
                            refine bselM h154 (fun hb156 h154 => ?_) (fun hb156 h154 => ?_)
                            · refine gok hn ?_
                              refine qn86337 _ _ ?_
                              obtain rfl := Option.some.inj h154
                              refine EOk.done ?_
                              exact ⟨⟨_, rfl⟩, [], trivial, ⟨⟨rfl, (by repeat (first | exact trivial | exact rfl | (refine And.intro ?_ ?_))), rfl, rfl, rfl, (by repeat (first | exact trivial | exact rfl | (refine And.intro ?_ ?_))), rfl, rfl, rfl, rfl, trivial⟩, ⟨rfl, rfl, rfl, rfl, rfl, rfl, rfl, rfl, trivial⟩, rfl, rfl⟩⟩
                            · refine gor hn ?_
                              refine qn86337 _ _ ?_
                              obtain rfl := Option.some.inj h154
                              refine EOk.done ?_
                              exact ⟨⟨_, rfl⟩, [], trivial, ⟨⟨rfl, (by repeat (first | exact trivial | exact rfl | (refine And.intro ?_ ?_))), rfl, rfl, rfl, (by repeat (first | exact trivial | exact rfl | (refine And.intro ?_ ?_))), rfl, rfl, rfl, rfl, trivial⟩, ⟨rfl, rfl, rfl, rfl, rfl, rfl, rfl, rfl, trivial⟩, rfl, rfl⟩⟩
                          rintro ⟨v153, hv_⟩
                          replace hv_ := hv_.symm
                          subst hv_
                          refine qn86335 _ _ ?_
                          obtain ⟨o164, h163, h148⟩ := bindM h148
                          refine COk.joinR (ι := { s : (Wd × Me × (List Ins) × Int × (List Int) × (List Int)) // o164 = s }) (fun s => [(0, .ptr 1000 0), (4, .fp (eMe a4)), (10, .int a0.temps), (13, .int (v49.length : Int)), (87, .sl 5 (List.map eIns a4.code)), (88, .int (a4.code.length : Int)), (89, .int (k67 : Int))]) (fun s => [(631, .row 5 (List.map eIns s.1.2.2.1) 62), (632, .row 1 (List.map eInt s.1.2.2.2.2.1) 3), (633, .row 1 (List.map eInt s.1.2.2.2.2.2) 3), (1000, .box [.fp (eWd s.1.1), .fp (eMe s.1.2.1), .own 631, .int s.1.2.2.2.1, .own 632, .own 633] 107), (1001, .gone), (1002, .gone), (1003, .gone)]) (fun Q86342 qn86342 qx86342 qr86342 => ?_) (by intro s; rw [hn]; rfl) ?_
                          · refine goc hn ?_
                            refine bselM h163 (fun hb165 h163 => ?_) (fun hb165 h163 => ?_)
                            · refine gor hn ?_
                              refine Or.inr ?_
                              obtain ⟨r166, hr167, h163⟩ := bindM h163
                              show CallOk Try.prog _ _ _ _
                              refine CallOk.as (((((((inline_writer_put_ok N (⟨v68, v69, v70, v71, v72, v73⟩ : TWriter) x91.op (wr ((v49.length : Int) + x91.a)) (0 : Int) (0 : Int) r166 hr167).sw 1001 604).sw 1002 605).sw 1003 606).sw 2 631).sw 3 632).sw 4 633) (by repeat (first | exact trivial | exact rfl | (refine And.intro ?_ ?_))) (by repeat (first | exact trivial | exact rfl | (refine And.intro ?_ ?_))) rfl ?_
                              refine qn86342 _ _ ?_
                              obtain rfl := Option.some.inj h163
                              refine EOk.done ?_
                              exact ⟨⟨_, rfl⟩, [], trivial, ⟨⟨rfl, (by repeat (first | exact trivial | exact rfl | (refine And.intro ?_ ?_))), rfl, rfl, (by repeat (first | exact trivial | exact rfl | (refine And.intro ?_ ?_))), rfl, rfl, trivial⟩, ⟨rfl, rfl, rfl, rfl, rfl, rfl, rfl, trivial⟩, rfl, rfl⟩⟩
                            · refine COk.seqQ fun Q86343 qn86343 qx86343 qr86343 => ?_
                              refine gor hn ?_
                              refine qn86343 _ _ ?_
                              obtain ⟨o175, h174, h163⟩ := bindM h163
                              refine COk.joinR (ι := { s : (Wd × Me × (List Ins) × Int × (List Int) × (List Int)) // o175 = s }) (fun s => [(0, .ptr 1000 0), (4, .fp (eMe a4)), (10, .int a0.temps), (13, .int (v49.length : Int)), (87, .sl 5 (List.map eIns a4.code)), (88, .int (a4.code.length : Int)), (89, .int (k67 : Int))]) (fun s => [(634, .row 5 (List.map eIns s.1.2.2.1) 62), (635, .row 1 (List.map eInt s.1.2.2.2.2.1) 3), (636, .row 1 (List.map eInt s.1.2.2.2.2.2) 3), (1000, .box [.fp (eWd s.1.1), .fp (eMe s.1.2.1), .own 634, .int s.1.2.2.2.1, .own 635, .own 636] 107), (1001, .gone), (1002, .gone), (1003, .gone)]) (fun Q86344 qn86344 qx86344 qr86344 => ?_) (by intro s; rw [hn]; rfl) ?_
                              · refine goc hn ?_
                                refine bselM h174 (fun hb176 h174 => ?_) (fun hb176 h174 => ?_)
                                · refine gor hn ?_
                                  refine lenM (fun hl177 => ?_)
                                  refine Or.inr ?_
                                  obtain ⟨r178, hr179, h174⟩ := bindM h174
                                  show CallOk Try.prog _ _ _ _
                                  refine CallOk.as (((((((inline_writer_put_ok N (⟨v68, v69, v70, v71, v72, v73⟩ : TWriter) (15 : Int) (wr ((v49.length : Int) + (a4.code.length : Int))) (0 : Int) (0 : Int) r178 hr179).sw 1001 604).sw 1002 605).sw 1003 606).sw 2 634).sw 3 635).sw 4 636) (by repeat (first | exact trivial | exact rfl | (refine And.intro ?_ ?_))) (by repeat (first | exact trivial | exact rfl | (refine And.intro ?_ ?_))) rfl ?_
                                  refine qn86344 _ _ ?_
                                  obtain rfl := Option.some.inj h174
                                  refine EOk.done ?_
                                  exact ⟨⟨_, rfl⟩, [], trivial, ⟨⟨rfl, (by repeat (first | exact trivial | exact rfl | (refine And.intro ?_ ?_))), rfl, rfl, (by repeat (first | exact trivial | exact rfl | (refine And.intro ?_ ?_))), rfl, rfl, trivial⟩, ⟨rfl, rfl, rfl, rfl, rfl, rfl, rfl, trivial⟩, rfl, rfl⟩⟩
                                · refine gor hn ?_
                                  obtain ⟨r180, hr181, h174⟩ := bindM h174
                                  show CallOk Try.prog _ _ _ _
                                  refine CallOk.as (((((((inline_writer_put_ok N (⟨v68, v69, v70, v71, v72, v73⟩ : TWriter) x91.op x91.a (0 : Int) (0 : Int) r180 hr181).sw 1001 604).sw 1002 605).sw 1003 606).sw 2 637).sw 3 638).sw 4 639) (by repeat (first | exact trivial | exact rfl | (refine And.intro ?_ ?_))) (by repeat (first | exact trivial | exact rfl | (refine And.intro ?_ ?_))) rfl ?_
                                  refine qn86344 _ _ ?_
                                  obtain rfl := Option.some.inj h174
                                  refine EOk.done ?_
                                  exact ⟨⟨_, rfl⟩, [(634, 637), (635, 638), (636, 639)], trivial, ⟨⟨rfl, (by repeat (first | exact trivial | exact rfl | (refine And.intro ?_ ?_))), rfl, rfl, (by repeat (first | exact trivial | exact rfl | (refine And.intro ?_ ?_))), rfl, rfl, trivial⟩, ⟨rfl, rfl, rfl, rfl, rfl, rfl, rfl, trivial⟩, rfl, rfl⟩⟩
                              rintro ⟨⟨v168, v169, v170, v171, v172, v173⟩, rfl⟩
                              refine qn86342 _ _ ?_
                              obtain rfl := Option.some.inj h163
                              refine EOk.done ?_
                              exact ⟨⟨_, rfl⟩, [(631, 634), (632, 635), (633, 636)], trivial, ⟨⟨rfl, (by repeat (first | exact trivial | exact rfl | (refine And.intro ?_ ?_))), rfl, rfl, (by repeat (first | exact trivial | exact rfl | (refine And.intro ?_ ?_))), rfl, rfl, trivial⟩, ⟨rfl, rfl, rfl, rfl, rfl, rfl, rfl, trivial⟩, rfl, rfl⟩⟩
                          rintro ⟨⟨v157, v158, v159, v160, v161, v162⟩, rfl⟩
                          refine qn86334 _ _ ?_
                          obtain rfl := Option.some.inj h148
                          refine EOk.done ?_
                          exact ⟨⟨_, rfl⟩, [(628, 631), (629, 632), (630, 633)], trivial, ⟨⟨rfl, (by repeat (first | exact trivial | exact rfl | (refine And.intro ?_ ?_))), rfl, rfl, (by repeat (first | exact trivial | exact rfl | (refine And.intro ?_ ?_))), rfl, rfl, trivial⟩, ⟨rfl, rfl, rfl, rfl, rfl, rfl, rfl, trivial⟩, rfl, rfl⟩⟩
                      rintro ⟨⟨v142, v143, v144, v145, v146, v147⟩, rfl⟩
                      refine qn86312 _ _ ?_
                      obtain rfl := Option.some.inj h137
                      refine EOk.done ?_
                      exact ⟨⟨_, rfl⟩, [(625, 628), (626, 629), (627, 630)], trivial, ⟨⟨rfl, (by repeat (first | exact trivial | exact rfl | (refine And.intro ?_ ?_))), rfl, rfl, (by repeat (first | exact trivial | exact rfl | (refine And.intro ?_ ?_))), rfl, rfl, trivial⟩, ⟨rfl, rfl, rfl, rfl, rfl, rfl, rfl, trivial⟩, rfl, rfl⟩⟩
                  rintro ⟨⟨v131, v132, v133, v134, v135, v136⟩, rfl⟩
                  refine qn86246 _ _ ?_
                  obtain rfl := Option.some.inj h126
                  refine EOk.done ?_
                  exact ⟨⟨_, rfl⟩, [(622, 625), (623, 626), (624, 627)], trivial, ⟨⟨rfl, (by repeat (first | exact trivial | exact rfl | (refine And.intro ?_ ?_))), rfl, rfl, (by repeat (first | exact trivial | exact rfl | (refine And.intro ?_ ?_))), rfl, rfl, trivial⟩, ⟨rfl, rfl, rfl, rfl, rfl, rfl, rfl, trivial⟩, rfl, rfl⟩⟩
              rintro ⟨⟨v120, v121, v122, v123, v124, v125⟩, rfl⟩
              refine qn86046 _ _ ?_
              obtain rfl := Option.some.inj h111
              refine EOk.done ?_
              exact ⟨⟨_, rfl⟩, [(619, 622), (620, 623), (621, 624)], trivial, ⟨⟨rfl, (by repeat (first | exact trivial | exact rfl | (refine And.intro ?_ ?_))), rfl, rfl, (by repeat (first | exact trivial | exact rfl | (refine And.intro ?_ ?_))), rfl, rfl, trivial⟩, ⟨rfl, rfl, rfl, rfl, rfl, rfl, rfl, trivial⟩, rfl, rfl⟩⟩
          rintro ⟨⟨v105, v106, v107, v108, v109, v110⟩, rfl⟩
          refine qn85448 _ _ ?_
          obtain rfl := Option.some.inj h100
          refine EOk.done ?_
          exact ⟨⟨_, rfl⟩, [(616, 619), (617, 620), (618, 621)], trivial, ⟨⟨rfl, (by repeat (first | exact trivial | exact rfl | (refine And.intro ?_ ?_))), rfl, rfl, (by repeat (first | exact trivial | exact rfl | (refine And.intro ?_ ?_))), rfl, rfl, trivial⟩, ⟨rfl, rfl, rfl, rfl, rfl, rfl, rfl, trivial⟩, rfl, rfl⟩⟩
      rintro ⟨⟨v94, v95, v96, v97, v98, v99⟩, rfl⟩
      refine qn83654 _ _ ?_
      refine qn80960 _ _ ?_
      refine qn75574 _ _ ?_
      refine gor hn ?_
      refine Or.inl (And.intro (inrK hx92 hl66) ?_)
      refine qn75569 _ _ ?_
      refine EOk.done ?_
      exact ⟨⟨(rest88, k67 + 1, v94, v95, v96, v97, v98, v99), hd2, h87⟩, [(604, 616), (605, 617), (606, 618)], by show rest88.length < rest88.length + 1; omega, ⟨⟨rfl, (by repeat (first | exact trivial | exact rfl | (refine And.intro ?_ ?_))), rfl, rfl, (by repeat (first | exact trivial | exact rfl | (refine And.intro ?_ ?_))), rfl, rfl, trivial⟩, ⟨rfl, rfl, rfl, rfl, rfl, rfl, rfl, trivial⟩, rfl, rfl⟩⟩
  rintro ⟨⟨v80, v81, v82, v83, v84, v85⟩, rfl⟩
  obtain rfl := Option.some.inj h
  exact ⟨[(2, 604), (3, 605), (4, 606)], _, rfl, (by repeat (first | exact trivial | exact rfl | (refine And.intro ?_ ?_))), ⟨rfl, rfl, rfl, rfl, rfl, rfl, rfl, trivial⟩, rfl, rfl, rfl, rfl, rfl⟩

/- inline.Method -/
set_option maxRecDepth 100000 in
set_option maxHeartbeats 1000000 in
theorem inline_Method_ok (N : Nat) (a0 : Wd) (a1 : Int) (a2 : Int) (a3 : (List Int)) (r : (Fs × Bool)) (h : inline_Method N a0 a1 a2 a3 = some r) : Spec Try.prog 24 [] [.agg (eWd a0), .int a1, .int a2, .sl 1 (List.map eInt a3)] (.tup [.agg (eFs r.1), .bool r.2]) [] [] := by
  refine Spec.of tabOk Try.func24 rfl Try.ntmps24 (by kernel_rfl) rfl rfl rfl fun Γ hn => ?_
  unfold inline_Method at h
  refine COk.seqQ fun Q765 qn765 qx765 qr765 => ?_
  refine gor hn ?_
  refine qn765 _ _ ?_
  refine COk.seqQ fun Q766 qn766 qx766 qr766 => ?_
  refine COk.seqQ fun Q767 qn767 qx767 qr767 => ?_
  obtain ⟨o3, h2, h⟩ := bindM h
  refine COk.joinR (ι := { s : Bool // o3 = s }) (fun s => [(1, .int a1), (2, .int a2), (3, .sl 1 (List.map eInt a3)), (4, .ptr 4 0), (8, .ptr 8 0), (41, .bool s.1)]) (fun s => [(4, .box (eWd a0) 26), (8, .box [.int (0 : Int), .str ByteArray.empty, .int (0 : Int), .int (0 : Int), .nilsl] 53)]) (fun Q768 qn768 qx768 qr768 => ?_) (by intro s; rw [hn]; rfl) ?_
  · refine gor hn ?_
    refine bselM h2 (fun hb4 h2 => ?_) (fun hb4 h2 => ?_)
    · refine bselT hb4 ?_
      refine bselT hb4 ?_
      refine bselT hb4 ?_
      refine bselT hb4 ?_
      refine bselT hb4 ?_
      refine qn768 _ _ ?_
      obtain rfl := Option.some.inj h2
      refine EOk.done ?_
      exact ⟨⟨_, rfl⟩, [], trivial, ⟨⟨rfl, rfl, (by repeat (first | exact trivial | exact rfl | (refine And.intro ?_ ?_))), rfl, rfl, rfl, trivial⟩, ⟨rfl, rfl, trivial⟩, rfl, rfl⟩⟩
    · refine bselF hb4 ?_
      refine bselF hb4 ?_
      refine bselF hb4 ?_
      refine lenM (fun hl5 => ?_)
      refine bselF hb4 ?_
      refine bselF hb4 ?_
      refine bselM h2 (fun hb6 h2 => ?_) (fun hb6 h2 => ?_)
      · refine bselT hb6 ?_
        refine bselT hb6 ?_
        refine qn768 _ _ ?_
        obtain rfl := Option.some.inj h2
        refine EOk.done ?_
        exact ⟨⟨_, rfl⟩, [], trivial, ⟨⟨rfl, rfl, (by repeat (first | exact trivial | exact rfl | (refine And.intro ?_ ?_))), rfl, rfl, rfl, trivial⟩, ⟨rfl, rfl, trivial⟩, rfl, rfl⟩⟩
      · refine bselF hb6 ?_
        refine bselF hb6 ?_
        refine bselM h2 (fun hb7 h2 => ?_) (fun hb7 h2 => ?_)
        · refine bselT hb7 ?_
          refine bselT hb7 ?_
          refine bselT hb7 ?_
          refine bselT hb7 ?_
          refine bselT hb7 ?_
          refine bselT hb7 ?_
          refine bselT hb7 ?_
          refine bselT hb7 ?_
          refine bselT hb7 ?_
          refine qn768 _ _ ?_
          obtain rfl := Option.some.inj h2
          refine EOk.done ?_
          exact ⟨⟨_, rfl⟩, [], trivial, ⟨⟨rfl, rfl, (by repeat (first | exact trivial | exact rfl | (refine And.intro ?_ ?_))), rfl, rfl, rfl, trivial⟩, ⟨rfl, rfl, trivial⟩, rfl, rfl⟩⟩
        · refine bselF hb7 ?_
          refine bselF hb7 ?_
          refine bselF hb7 ?_
          refine bselF hb7 ?_
          obtain ⟨x8, hx9, h2⟩ := bindM h2
          refine idxM hx9 ?_
          refine bselF hb7 ?_
          refine bselF hb7 ?_
          refine bselF hb7 ?_
          refine lenM (fun hl10 => ?_)
          refine bselF hb7 ?_
          refine bselF hb7 ?_
          refine qn768 _ _ ?_
          obtain rfl := Option.some.inj h2
          refine EOk.done ?_
          exact ⟨⟨_, rfl⟩, [], trivial, ⟨⟨rfl, rfl, (by repeat (first | exact trivial | exact rfl | (refine And.intro ?_ ?_))), rfl, rfl, rfl, trivial⟩, ⟨rfl, rfl, trivial⟩, rfl, rfl⟩⟩
  rintro ⟨v1, hv_⟩
  replace hv_ := hv_.symm
  subst hv_
  refine qn767 _ _ ?_
  refine goc hn ?_
  refine bselM h (fun hb11 h => ?_) (fun hb11 h => ?_)
  · refine COk.seqQ fun Q770 qn770 qx770 qr770 => ?_
    refine gor hn ?_
    refine qn770 _ _ ?_
    refine got hn ?_
    refine qr766 _ _ ?_
    obtain rfl := Option.some.inj h
    exact ⟨[], _, rfl, (by repeat (first | exact trivial | exact rfl | (refine And.intro ?_ ?_))), trivial, rfl, rfl, rfl, rfl, rfl⟩
  · refine gok hn ?_
    refine qn766 _ _ ?_
    refine COk.seqQ fun Q771 qn771 qx771 qr771 => ?_
    refine gor hn ?_
    obtain ⟨x12, hx13, h⟩ := bindM h
    refine idxM hx13 ?_
    obtain ⟨x14, hx15, h⟩ := bindM h
    refine idxM hx15 ?_
    refine qn771 _ _ ?_
    refine COk.seqQ fun Q772 qn772 qx772 qr772 => ?_
    refine COk.gh (Gh.fzBox 4 4 rfl rfl rfl) (fun _ => ?_)
    refine COk.sub (ts2 := [(1, .int a1), (3, .sl 1 (List.map eInt a3)), (4, .fp (eWd a0)), (8, .ptr 8 0), (10, .fp (eMe x14))]) (os2 := [(8, .box [.int (0 : Int), .str ByteArray.empty, .int (0 : Int), .int (0 : Int), .nilsl] 53)]) [] ⟨⟨rfl, (by repeat (first | exact trivial | exact rfl | (refine And.intro ?_ ?_))), (by repeat (first | exact trivial | exact rfl | (refine And.intro ?_ ?_))), rfl, (by repeat (first | exact trivial | exact rfl | (refine And.intro ?_ ?_))), trivial⟩, ⟨rfl, trivial⟩, rfl, rfl⟩ (by rw [hn]; rfl) ?_
    refine gor hn ?_
    refine qn772 _ _ ?_
    refine COk.seqQ fun Q773 qn773 qx773 qr773 => ?_
    refine gor hn ?_
    refine qn773 _ _ ?_
    refine COk.seqQ fun Q774 qn774 qx774 qr774 => ?_
    refine COk.seqQ fun Q775 qn775 qx775 qr775 => ?_
    refine gor hn ?_
    refine lenM (fun hl16 => ?_)
    refine qn775 _ _ ?_
    refine COk.nilrowB 57 2 601 5 62 rfl rfl rfl rfl rfl rfl ?_
    refine COk.nilrowB 57 4 602 1 3 rfl rfl rfl rfl rfl rfl ?_
    refine COk.nilrowB 57 5 603 1 3 rfl rfl rfl rfl rfl rfl ?_
    obtain ⟨o39, h40, h⟩ := bindM h
    refine COk.joinR (ι := { s : (Wd × Me × (List Ins) × Int × (List Int) × (List Int) × Bool) // o39 = s }) (fun s => [(1, .int a1), (4, .fp (eWd a0)), (8, .ptr 8 0), (10, .fp (eMe x14)), (11, .ptr 57 0), (12, .bool s.1.2.2.2.2.2.2)]) (fun s => [(8, .box [.int (0 : Int), .str ByteArray.empty, .int (0 : Int), .int (0 : Int), .nilsl] 53), (57, .box [.fp (eWd s.1.1), .fp (eMe s.1.2.1), .own 601, .int s.1.2.2.2.1, .own 602, .own 603] 107), (601, .row 5 (List.map eIns s.1.2.2.1) 62), (602, .row 1 (List.map eInt s.1.2.2.2.2.1) 3), (603, .row 1 (List.map eInt s.1.2.2.2.2.2.1) 3)]) (fun Q1351 qn1351 qx1351 qr1351 => ?_) (by intro s; rw [hn]; rfl) ?_
    · refine COk.blkQ fun Q1352 qn1352 qe1352 qx1352 qr1352 => ?_
      refine COk.loopQ (ι := { q : ((List Ins) × Nat × Wd × Me × (List Ins) × Int × (List Int) × (List Int) × Bool) // q.1 = x14.code.drop q.2.1 ∧ inline_Method_l1 N a3 x14 q.1 q.2.1 q.2.2.1 q.2.2.2.1 q.2.2.2.2.1 q.2.2.2.2.2.1 q.2.2.2.2.2.2.1 q.2.2.2.2.2.2.2.1 q.2.2.2.2.2.2.2.2 = some o39 }) (fun q => [(1, .int a1), (3, .sl 1 (List.map eInt a3)), (4, .fp (eWd a0)), (8, .ptr 8 0), (10, .fp (eMe x14)), (11, .ptr 57 0), (12, .bool q.1.2.2.2.2.2.2.2.2), (61, .sl 5 (List.map eIns x14.code)), (62, .int (x14.code.length : Int)), (63, .int (q.1.2.1 : Int))]) (fun q => [(8, .box [.int (0 : Int), .str ByteArray.empty, .int (0 : Int), .int (0 : Int), .nilsl] 53), (57, .box [.fp (eWd q.1.2.2.1), .fp (eMe q.1.2.2.2.1), .own 601, .int q.1.2.2.2.2.2.1, .own 602, .own 603] 107), (601, .row 5 (List.map eIns q.1.2.2.2.2.1) 62), (602, .row 1 (List.map eInt q.1.2.2.2.2.2.2.1) 3), (603, .row 1 (List.map eInt q.1.2.2.2.2.2.2.2.1) 3)]) (fun q => q.1.1.length) ⟨(x14.code, 0, a0, x14, ([] : List Ins), x14.temps, ([] : List Int), ([] : List Int), false), rfl, h40⟩ [] ⟨⟨rfl, (by repeat (first | exact trivial | exact rfl | (refine And.intro ?_ ?_))), (by repeat (first | exact trivial | exact rfl | (refine And.intro ?_ ?_))), rfl, (by repeat (first | exact trivial | exact rfl | (refine And.intro ?_ ?_))), rfl, rfl, (by repeat (first | exact trivial | exact rfl | (refine And.intro ?_ ?_))), rfl, rfl, trivial⟩, ⟨rfl, rfl, rfl, rfl, rfl, trivial⟩, rfl, rfl⟩ (by intro q; rw [hn]; rfl) ?_
      rintro ⟨⟨rest_, k17, v18, v19, v20, v21, v22, v23, v24⟩, hd42, h40⟩ Q1353 qn1353 qx1353 qr1353
      replace hd42 : rest_ = x14.code.drop k17 := hd42
      rcases rest_ with _ | ⟨x44, rest41⟩
      · have hlt46 := restNil hd42
        replace h40 := (inline_Method_l1.eq_1 _ _ _ _ _ _ _ _ _ _ _).symm.trans h40
        refine COk.seqQ fun Q1354 qn1354 qx1354 qr1354 => ?_
        refine gor hn ?_
        refine qn1354 _ _ ?_
        refine COk.seqQ fun Q1355 qn1355 qx1355 qr1355 => ?_
        refine goc hn ?_
        refine bselF hlt46 ?_
        refine goe hn ?_
        refine qx1355 _ _ _ ?_
        refine qx1353 _ _ _ ?_
        refine qe1352 _ _ ?_
        refine qn1351 _ _ ?_
        obtain rfl := Option.some.inj h40
        refine EOk.done ?_
        exact ⟨⟨_, rfl⟩, [], trivial, ⟨⟨rfl, (by repeat (first | exact trivial | exact rfl | (refine And.intro ?_ ?_))), rfl, (by repeat (first | exact trivial | exact rfl | (refine And.intro ?_ ?_))), rfl, rfl, trivial⟩, ⟨rfl, rfl, rfl, rfl, rfl, trivial⟩, rfl, rfl⟩⟩
      · obtain ⟨hx45, hd2, hlt46⟩ := restCons hd42
        replace h40 := (inline_Method_l1.eq_2 _ _ _ _ _ _ _ _ _ _ _ _ _).symm.trans h40
        refine COk.seqQ fun Q1356 qn1356 qx1356 qr1356 => ?_
        refine gor hn ?_
        refine qn1356 _ _ ?_
        refine COk.seqQ fun Q1357 qn1357 qx1357 qr1357 => ?_
        refine goc hn ?_
        refine bselT hlt46 ?_
        refine gok hn ?_
        refine qn1357 _ _ ?_
        refine COk.seqQ fun Q1358 qn1358 qx1358 qr1358 => ?_
        obtain ⟨o55, h54, h40⟩ := bindM h40
        refine COk.joinR (ι := { s : (Wd × Me × (List Ins) × Int × (List Int) × (List Int) × Bool) // o55 = s }) (fun s => [(1, .int a1), (3, .sl 1 (List.map eInt a3)), (4, .fp (eWd a0)), (8, .ptr 8 0), (10, .fp (eMe x14)), (11, .ptr 57 0), (12, .bool s.1.2.2.2.2.2.2), (61, .sl 5 (List.map eIns x14.code)), (62, .int (x14.code.length : Int)), (63, .int (k17 : Int))]) (fun s => [(8, .box [.int (0 : Int), .str ByteArray.empty, .int (0 : Int), .int (0 : Int), .nilsl] 53), (57, .box [.fp (eWd s.1.1), .fp (eMe s.1.2.1), .own 203, .int s.1.2.2.2.1, .own 605, .own 188] 107), (188, .row 1 (List.map eInt s.1.2.2.2.2.2.1) 3), (203, .row 5 (List.map eIns s.1.2.2.1) 62), (605, .row 1 (List.map eInt s.1.2.2.2.2.1) 3)]) (fun Q1445 qn1445 qx1445 qr1445 => ?_) (by intro s; rw [hn]; rfl) ?_
        · refine COk.blkQ fun Q1446 qn1446 qe1446 qx1446 qr1446 => ?_
          refine COk.seqQ fun Q1447 qn1447 qx1447 qr1447 => ?_
          refine gor hn ?_
          refine idxK hx45 ?_
          refine qn1447 _ _ ?_
          refine COk.seqQ fun Q1448 qn1448 qx1448 qr1448 => ?_
          refine god hn (by kernel_rfl) ?_
          refine lenM (fun hl56 => ?_)
          refine Exists.intro (List.map eInt [(v20.length : Int)]) (And.intro (by repeat (first | exact trivial | exact rfl | (refine And.intro ?_ ?_))) ?_)
          obtain ⟨hg57, h54⟩ := guardM h54
          refine appM (l2 := [(v20.length : Int)]) hg57 (leLs_refl _) ?_
          refine qn1448 _ _ ?_
          refine COk.seqQ fun Q1449 qn1449 qx1449 qr1449 => ?_
          refine COk.seqQ fun Q1450 qn1450 qx1450 qr1450 => ?_
          obtain ⟨o60, h59, h54⟩ := bindM h54
          refine COk.joinR (ι := { s : Bool // o60 = s }) (fun s => [(1, .int a1), (3, .sl 1 (List.map eInt a3)), (4, .fp (eWd a0)), (8, .ptr 8 0), (10, .fp (eMe x14)), (11, .ptr 57 0), (12, .bool v24), (13, .int (k17 : Int)), (14, .ptr 14 0), (61, .sl 5 (List.map eIns x14.code)), (62, .int (x14.code.length : Int)), (63, .int (k17 : Int)), (97, .bool s.1)]) (fun s => [(8, .box [.int (0 : Int), .str ByteArray.empty, .int (0 : Int), .int (0 : Int), .nilsl] 53), (14, .box (eIns x44) 62), (57, .box [.fp (eWd v18), .fp (eMe v19), .own 601, .int v21, .own 79, .own 603] 107), (79, .row 1 (List.map eInt (v22 ++ [(v20.length : Int)])) 3), (601, .row 5 (List.map eIns v20) 62), (603, .row 1 (List.map eInt v23) 3)]) (fun Q1451 qn1451 qx1451 qr1451 => ?_) (by intro s; rw [hn]; rfl) ?_
          · refine COk.sub (ts2 := [(1, .int a1), (3, .sl 1 (List.map eInt a3)), (4, .fp (eWd a0)), (8, .ptr 8 0), (10, .fp (eMe x14)), (11, .ptr 57 0), (12, .bool v24), (13, .int (k17 : Int)), (14, .ptr 14 0), (61, .sl 5 (List.map eIns x14.code)), (62, .int (x14.code.length : Int)), (63, .int (k17 : Int))]) (os2 := [(8, .box [.int (0 : Int), .str ByteArray.empty, .int (0 : Int), .int (0 : Int), .nilsl] 53), (14, .box (eIns x44) 62), (57, .box [.fp (eWd v18), .fp (eMe v19), .own 601, .int v21, .own 79, .own 603] 107), (79, .row 1 (List.map eInt (v22 ++ [(v20.length : Int)])) 3), (601, .row 5 (List.map eIns v20) 62), (603, .row 1 (List.map eInt v23) 3)]) [] ⟨⟨rfl, (by repeat (first | exact trivial | exact rfl | (refine And.intro ?_ ?_))), (by repeat (first | exact trivial | exact rfl | (refine And.intro ?_ ?_))), rfl, (by repeat (first | exact trivial | exact rfl | (refine And.intro ?_ ?_))), rfl, rfl, rfl, rfl, (by repeat (first | exact trivial | exact rfl | (refine And.intro ?_ ?_))), rfl, rfl, trivial⟩, ⟨rfl, rfl, rfl, rfl, rfl, rfl, trivial⟩, rfl, rfl⟩ (by rw [hn]; rfl) ?_
            refine gor hn ?_
            refine bselM h59 (fun hb61 h59 => ?_) (fun hb61 h59 => ?_)
            · refine bselT hb61 ?_
              refine bselT hb61 ?_
              refine lenM (fun hl62 => ?_)
              refine bselT hb61 ?_
              refine bselT hb61 ?_
              refine bselM h59 (fun hb63 h59 => ?_) (fun hb63 h59 => ?_)
              · refine bselT hb63 ?_
                refine bselT hb63 ?_
                obtain ⟨x64, hx65, h59⟩ := bindM h59
                refine idxM hx65 ?_
                refine bselT hb63 ?_
                refine bselT hb63 ?_
                refine bselT hb63 ?_
                refine qn1451 _ _ ?_
                obtain rfl := Option.some.inj h59
                refine EOk.done ?_
                exact ⟨⟨_, rfl⟩, [], trivial, ⟨⟨rfl, (by repeat (first | exact trivial | exact rfl | (refine And.intro ?_ ?_))), (by repeat (first | exact trivial | exact rfl | (refine And.intro ?_ ?_))), rfl, (by repeat (first | exact trivial | exact rfl | (refine And.intro ?_ ?_))), rfl, rfl, rfl, rfl, (by repeat (first | exact trivial | exact rfl | (refine And.intro ?_ ?_))), rfl, rfl, rfl, trivial⟩, ⟨rfl, rfl, rfl, rfl, rfl, rfl, trivial⟩, rfl, rfl⟩⟩
              · refine bselF hb63 ?_
                refine bselF hb63 ?_
                refine bselF hb63 ?_
                refine bselF hb63 ?_
                refine bselF hb63 ?_
                refine qn1451 _ _ ?_
                obtain rfl := Option.some.inj h59
                refine EOk.done ?_
                exact ⟨⟨_, rfl⟩, [], trivial, ⟨⟨rfl, (by repeat (first | exact trivial | exact rfl | (refine And.intro ?_ ?_))), (by repeat (first | exact trivial | exact rfl | (refine And.intro ?_ ?_))), rfl, (by repeat (first | exact trivial | exact rfl | (refine And.intro ?_ ?_))), rfl, rfl, rfl, rfl, (by repeat (first | exact trivial | exact rfl | (refine And.intro ?_ ?_))), rfl, rfl, rfl, trivial⟩, ⟨rfl, rfl, rfl, rfl, rfl, rfl, trivial⟩, rfl, rfl⟩⟩
            · refine bselF hb61 ?_
              refine bselF hb61 ?_
              refine bselF hb61 ?_
              refine bselF hb61 ?_
              refine qn1451 _ _ ?_
              obtain rfl := Option.some.inj h59
              refine EOk.done ?_
              exact ⟨⟨_, rfl⟩, [], trivial, ⟨⟨rfl, (by repeat (first | exact trivial | exact rfl | (refine And.intro ?_ ?_))), (by repeat (first | exact trivial | exact rfl | (refine And.intro ?_ ?_))), rfl, (by repeat (first | exact trivial | exact rfl | (refine And.intro ?_ ?_))), rfl, rfl, rfl, rfl, (by repeat (first | exact trivial | exact rfl | (refine And.intro ?_ ?_))), rfl, rfl, rfl, trivial⟩, ⟨rfl, rfl, rfl, rfl, rfl, rfl, trivial⟩, rfl, rfl⟩⟩
          rintro ⟨v58, hv_⟩
          replace hv_ := hv_.symm
          subst hv_
          refine qn1450 _ _ ?_
          refine goc hn ?_
          refine bselM h54 (fun hb66 h54 => ?_) (fun hb66 h54 => ?_)
          · refine COk.seqQ fun Q1460 qn1460 qx1460 qr1460 => ?_
            refine god hn (by kernel_rfl) ?_
            obtain ⟨x67, hx68, h54⟩ := bindM h54
            refine idxM hx68 ?_
            obtain ⟨r69, hr70, h54⟩ := bindM h54
            show CallOk Try.prog _ _ _ _
            refine CallOk.as ((((((((inline_writer_callee_ok N (⟨v18, v19, v20, v21, (v22 ++ [(v20.length : Int)]), v23⟩ : TWriter) x67 x44.name r69 hr70).sw 1000 57).sw 1001 601).sw 1002 79).sw 1003 603).sw 2 604).sw 3 605).sw 4 606) (by repeat (first | exact trivial | exact rfl | (refine And.intro ?_ ?_))) (by repeat (first | exact trivial | exact rfl | (refine And.intro ?_ ?_))) rfl ?_
            rcases r69 with ⟨_ | x72, w71⟩
            · refine qn1460 _ _ ?_
              refine COk.seqQ fun Q1461 qn1461 qx1461 qr1461 => ?_
              refine COk.sub (ts2 := [(1, .int a1), (3, .sl 1 (List.map eInt a3)), (4, .fp (eWd a0)), (8, .ptr 8 0), (10, .fp (eMe x14)), (11, .ptr 57 0), (12, .bool v24), (13, .int (k17 : Int)), (14, .ptr 14 0), (15, .nilp), (61, .sl 5 (List.map eIns x14.code)), (62, .int (x14.code.length : Int)), (63, .int (k17 : Int))]) (os2 := [(8, .box [.int (0 : Int), .str ByteArray.empty, .int (0 : Int), .int (0 : Int), .nilsl] 53), (14, .box (eIns x44) 62), (57, .box [.fp (eWd w71.w), .fp (eMe w71.m), .own 604, .int w71.temps, .own 605, .own 606] 107), (604, .row 5 (List.map eIns w71.out) 62), (605, .row 1 (List.map eInt w71.at_) 3), (606, .row 1 (List.map eInt w71.fix) 3)]) [] ⟨⟨rfl, (by repeat (first | exact trivial | exact rfl | (refine And.intro ?_ ?_))), (by repeat (first | exact trivial | exact rfl | (refine And.intro ?_ ?_))), rfl, (by repeat (first | exact trivial | exact rfl | (refine And.intro ?_ ?_))), rfl, rfl, rfl, rfl, (by repeat (first | exact trivial | exact rfl | (refine And.intro ?_ ?_))), (by repeat (first | exact trivial | exact rfl | (refine And.intro ?_ ?_))), rfl, rfl, trivial⟩, ⟨rfl, rfl, rfl, rfl, rfl, rfl, trivial⟩, rfl, rfl⟩ (by rw [hn]; rfl) ?_
              refine god hn (by kernel_rfl) ?_
              refine qn1461 _ _ ?_
              refine goc hn ?_
              refine gok hn ?_
              refine qn1449 _ _ ?_
              refine COk.seqQ fun Q1462 qn1462 qx1462 qr1462 => ?_
              refine COk.seqQ fun Q1463 qn1463 qx1463 qr1463 => ?_
              obtain ⟨o75, h74, h54⟩ := bindM h54
              refine COk.joinR (ι := { s : Bool // o75 = s }) (fun s => [(1, .int a1), (3, .sl 1 (List.map eInt a3)), (4, .fp (eWd a0)), (8, .ptr 8 0), (10, .fp (eMe x14)), (11, .ptr 57 0), (12, .bool v24), (13, .int (k17 : Int)), (14, .ptr 14 0), (61, .sl 5 (List.map eIns x14.code)), (62, .int (x14.code.length : Int)), (63, .int (k17 : Int)), (176, .bool s.1)]) (fun s => [(8, .box [.int (0 : Int), .str ByteArray.empty, .int (0 : Int), .int (0 : Int), .nilsl] 53), (14, .box (eIns x44) 62), (57, .box [.fp (eWd w71.w), .fp (eMe w71.m), .own 604, .int w71.temps, .own 605, .own 606] 107), (604, .row 5 (List.map eIns w71.out) 62), (605, .row 1 (List.map eInt w71.at_) 3), (606, .row 1 (List.map eInt w71.fix) 3)]) (fun Q1464 qn1464 qx1464 qr1464 => ?_) (by intro s; rw [hn]; rfl) ?_
              · refine COk.sub (ts2 := [(1, .int a1), (3, .sl 1 (List.map eInt a3)), (4, .fp (eWd a0)), (8, .ptr 8 0), (10, .fp (eMe x14)), (11, .ptr 57 0), (12, .bool v24), (13, .int (k17 : Int)), (14, .ptr 14 0), (61, .sl 5 (List.map eIns x14.code)), (62, .int (x14.code.length : Int)), (63, .int (k17 : Int))]) (os2 := [(8, .box [.int (0 : Int), .str ByteArray.empty, .int (0 : Int), .int (0 : Int), .nilsl] 53), (14, .box (eIns x44) 62), (57, .box [.fp (eWd w71.w), .fp (eMe w71.m), .own 604, .int w71.temps, .own 605, .own 606] 107), (604, .row 5 (List.map eIns w71.out) 62), (605, .row 1 (List.map eInt w71.at_) 3), (606, .row 1 (List.map eInt w71.fix) 3)]) [] ⟨⟨rfl, (by repeat (first | exact trivial | exact rfl | (refine And.intro ?_ ?_))), (by repeat (first | exact trivial | exact rfl | (refine And.intro ?_ ?_))), rfl, (by repeat (first | exact trivial | exact rfl | (refine And.intro ?_ ?_))), rfl, rfl, rfl, rfl, (by repeat (first | exact trivial | exact rfl | (refine And.intro ?_ ?_))), rfl, rfl, trivial⟩, ⟨rfl, rfl, rfl, rfl, rfl, rfl, trivial⟩, rfl, rfl⟩ (by rw [hn]; rfl) ?_
                refine gor hn ?_
                refine bselM h74 (fun hb76 h74 => ?_) (fun hb76 h74 => ?_)
                · refine bselT hb76 ?_
                  refine bselT hb76 ?_
                  refine bselT hb76 ?_
                  refine qn1464 _ _ ?_
                  obtain rfl := Option.some.inj h74
                  refine EOk.done ?_
                  exact ⟨⟨_, rfl⟩, [], trivial, ⟨⟨rfl, (by repeat (first | exact trivial | exact rfl | (refine And.intro ?_ ?_))), (by repeat (first | exact trivial | exact rfl | (refine And.intro ?_ ?_))), rfl, (by repeat (first | exact trivial | exact rfl | (refine And.intro ?_ ?_))), rfl, rfl, rfl, rfl, (by repeat (first | exact trivial | exact rfl | (refine And.intro ?_ ?_))), rfl, rfl, rfl, trivial⟩, ⟨rfl, rfl, rfl, rfl, rfl, rfl, trivial⟩, rfl, rfl⟩⟩
                · refine bselF hb76 ?_
                  refine bselF hb76 ?_
                  refine bselF hb76 ?_
                  refine qn1464 _ _ ?_
                  obtain rfl := Option.some.inj h74
                  refine EOk.done ?_
                  exact ⟨⟨_, rfl⟩, [], trivial, ⟨⟨rfl, (by repeat (first | exact trivial | exact rfl | (refine And.intro ?_ ?_))), (by repeat (first | exact trivial | exact rfl | (refine And.intro ?_ ?_))), rfl, (by repeat (first | exact trivial | exact rfl | (refine And.intro ?_ ?_))), rfl, rfl, rfl, rfl, (by repeat (first | exact trivial | exact rfl | (refine And.intro ?_ ?_))), rfl, rfl, rfl, trivial⟩, ⟨rfl, rfl, rfl, rfl, rfl, rfl, trivial⟩, rfl, rfl⟩⟩
              rintro ⟨v73, hv_⟩
              replace hv_ := hv_.symm
              subst hv_
              refine qn1463 _ _ ?_
              obtain ⟨o79, h78, h54⟩ := bindM h54
              refine COk.joinR (ι := { s : (List Int) // o79 = s }) (fun s => [(1, .int a1), (3, .sl 1 (List.map eInt a3)), (4, .fp (eWd a0)), (8, .ptr 8 0), (10, .fp (eMe x14)), (11, .ptr 57 0), (12, .bool v24), (13, .int (k17 : Int)), (14, .ptr 14 0), (61, .sl 5 (List.map eIns x14.code)), (62, .int (x14.code.length : Int)), (63, .int (k17 : Int))]) (fun s => [(8, .box [.int (0 : Int), .str ByteArray.empty, .int (0 : Int), .int (0 : Int), .nilsl] 53), (14, .box (eIns x44) 62), (57, .box [.fp (eWd w71.w), .fp (eMe w71.m), .own 604, .int w71.temps, .own 605, .own 188] 107), (188, .row 1 (List.map eInt s.1) 3), (604, .row 5 (List.map eIns w71.out) 62), (605, .row 1 (List.map eInt w71.at_) 3)]) (fun Q1465 qn1465 qx1465 qr1465 => ?_) (by intro s; rw [hn]; rfl) ?_
              · refine goc hn ?_
                refine bselM h78 (fun hb80 h78 => ?_) (fun hb80 h78 => ?_)
                · refine god hn (by kernel_rfl) ?_
                  refine lenM (fun hl81 => ?_)
                  refine Exists.intro (List.map eInt [(w71.out.length : Int)]) (And.intro (by repeat (first | exact trivial | exact rfl | (refine And.intro ?_ ?_))) ?_)
                  obtain ⟨hg82, h78⟩ := guardM h78
                  refine appM (l2 := [(w71.out.length : Int)]) hg82 (leLs_refl _) ?_
                  refine qn1465 _ _ ?_
                  obtain rfl := Option.some.inj h78
                  refine EOk.done ?_
                  exact ⟨⟨_, rfl⟩, [], trivial, ⟨⟨rfl, (by repeat (first | exact trivial | exact rfl | (refine And.intro ?_ ?_))), (by repeat (first | exact trivial | exact rfl | (refine And.intro ?_ ?_))), rfl, (by repeat (first | exact trivial | exact rfl | (refine And.intro ?_ ?_))), rfl, rfl, rfl, rfl, (by repeat (first | exact trivial | exact rfl | (refine And.intro ?_ ?_))), rfl, rfl, trivial⟩, ⟨rfl, rfl, rfl, rfl, rfl, rfl, trivial⟩, rfl, rfl⟩⟩
                · refine gok hn ?_
                  refine qn1465 _ _ ?_
                  obtain rfl := Option.some.inj h78
                  refine EOk.done ?_
                  exact ⟨⟨_, rfl⟩, [(188, 606)], trivial, ⟨⟨rfl, (by repeat (first | exact trivial | exact rfl | (refine And.intro ?_ ?_))), (by repeat (first | exact trivial | exact rfl | (refine And.intro ?_ ?_))), rfl, (by repeat (first | exact trivial | exact rfl | (refine And.intro ?_ ?_))), rfl, rfl, rfl, rfl, (by repeat (first | exact trivial | exact rfl | (refine And.intro ?_ ?_))), rfl, rfl, trivial⟩, ⟨rfl, rfl, rfl, rfl, rfl, rfl, trivial⟩, rfl, rfl⟩⟩
              rintro ⟨v77, hv_⟩
              replace hv_ := hv_.symm
              subst hv_
              refine qn1462 _ _ ?_
              refine COk.seqQ fun Q1466 qn1466 qx1466 qr1466 => ?_
              refine COk.seqQ fun Q1467 qn1467 qx1467 qr1467 => ?_
              refine gor hn ?_
              refine qn1467 _ _ ?_
              obtain ⟨o85, h84, h54⟩ := bindM h54
              refine COk.joinR (ι := { s : Ins // o85 = s }) (fun s => [(1, .int a1), (3, .sl 1 (List.map eInt a3)), (4, .fp (eWd a0)), (8, .ptr 8 0), (10, .fp (eMe x14)), (11, .ptr 57 0), (12, .bool v24), (14, .ptr 14 0), (61, .sl 5 (List.map eIns x14.code)), (62, .int (x14.code.length : Int)), (63, .int (k17 : Int))]) (fun s => [(8, .box [.int (0 : Int), .str ByteArray.empty, .int (0 : Int), .int (0 : Int), .nilsl] 53), (14, .box (eIns s.1) 62), (57, .box [.fp (eWd w71.w), .fp (eMe w71.m), .own 604, .int w71.temps, .own 605, .own 188] 107), (188, .row 1 (List.map eInt v77) 3), (604, .row 5 (List.map eIns w71.out) 62), (605, .row 1 (List.map eInt w71.at_) 3)]) (fun Q1468 qn1468 qx1468 qr1468 => ?_) (by intro s; rw [hn]; rfl) ?_
              · refine goc hn ?_
                refine bselM h84 (fun hb86 h84 => ?_) (fun hb86 h84 => ?_)
                · refine gor hn ?_
                  refine qn1468 _ _ ?_
                  obtain rfl := Option.some.inj h84
                  refine EOk.done ?_
                  exact ⟨⟨_, rfl⟩, [], trivial, ⟨⟨rfl, (by repeat (first | exact trivial | exact rfl | (refine And.intro ?_ ?_))), (by repeat (first | exact trivial | exact rfl | (refine And.intro ?_ ?_))), rfl, (by repeat (first | exact trivial | exact rfl | (refine And.intro ?_ ?_))), rfl, rfl, rfl, (by repeat (first | exact trivial | exact rfl | (refine And.intro ?_ ?_))), rfl, rfl, trivial⟩, ⟨rfl, rfl, rfl, rfl, rfl, rfl, trivial⟩, rfl, rfl⟩⟩
                · refine gok hn ?_
                  refine qn1468 _ _ ?_
                  obtain rfl := Option.some.inj h84
                  refine EOk.done ?_
                  exact ⟨⟨_, rfl⟩, [], trivial, ⟨⟨rfl, (by repeat (first | exact trivial | exact rfl | (refine And.intro ?_ ?_))), (by repeat (first | exact trivial | exact rfl | (refine And.intro ?_ ?_))), rfl, (by repeat (first | exact trivial | exact rfl | (refine And.intro ?_ ?_))), rfl, rfl, rfl, (by repeat (first | exact trivial | exact rfl | (refine And.intro ?_ ?_))), rfl, rfl, trivial⟩, ⟨rfl, rfl, rfl, rfl, rfl, rfl, trivial⟩, rfl, rfl⟩⟩
              rintro ⟨v83, hv_⟩
              replace hv_ := hv_.symm
              subst hv_
              refine qn1466 _ _ ?_
              refine god hn (by kernel_rfl) ?_
              refine Exists.intro (List.map eIns [v83]) (And.intro (by repeat (first | exact trivial | exact rfl | (refine And.intro ?_ ?_))) ?_)
              obtain ⟨hg87, h54⟩ := guardM h54
              refine appM (l2 := [v83]) hg87 (leLs_refl _) ?_
              refine qn1446 _ _ ?_
              refine qn1445 _ _ ?_
              obtain rfl := Option.some.inj h54
              refine EOk.done ?_
              exact ⟨⟨_, rfl⟩, [], trivial, ⟨⟨rfl, (by repeat (first | exact trivial | exact rfl | (refine And.intro ?_ ?_))), (by repeat (first | exact trivial | exact rfl | (refine And.intro ?_ ?_))), rfl, (by repeat (first | exact trivial | exact rfl | (refine And.intro ?_ ?_))), rfl, rfl, (by repeat (first | exact trivial | exact rfl | (refine And.intro ?_ ?_))), rfl, rfl, trivial⟩, ⟨rfl, rfl, rfl, rfl, rfl, trivial⟩, rfl, rfl⟩⟩
            · refine qn1460 _ _ ?_
              refine COk.seqQ fun Q1469 qn1469 qx1469 qr1469 => ?_
              obtain ⟨o90, h89, h54⟩ := bindM h54
              refine COk.joinR (ι := { s : Bool // o90 = s }) (fun s => [(1, .int a1), (3, .sl 1 (List.map eInt a3)), (4, .fp (eWd a0)), (8, .ptr 8 0), (10, .fp (eMe x14)), (11, .ptr 57 0), (12, .bool v24), (13, .int (k17 : Int)), (14, .ptr 14 0), (15, .fp (eMe x72)), (61, .sl 5 (List.map eIns x14.code)), (62, .int (x14.code.length : Int)), (63, .int (k17 : Int)), (159, .bool s.1)]) (fun s => [(8, .box [.int (0 : Int), .str ByteArray.empty, .int (0 : Int), .int (0 : Int), .nilsl] 53), (14, .box (eIns x44) 62), (57, .box [.fp (eWd w71.w), .fp (eMe w71.m), .own 604, .int w71.temps, .own 605, .own 606] 107), (604, .row 5 (List.map eIns w71.out) 62), (605, .row 1 (List.map eInt w71.at_) 3), (606, .row 1 (List.map eInt w71.fix) 3)]) (fun Q1470 qn1470 qx1470 qr1470 => ?_) (by intro s; rw [hn]; rfl) ?_
              · refine COk.sub (ts2 := [(1, .int a1), (3, .sl 1 (List.map eInt a3)), (4, .fp (eWd a0)), (8, .ptr 8 0), (10, .fp (eMe x14)), (11, .ptr 57 0), (12, .bool v24), (13, .int (k17 : Int)), (14, .ptr 14 0), (15, .fp (eMe x72)), (61, .sl 5 (List.map eIns x14.code)), (62, .int (x14.code.length : Int)), (63, .int (k17 : Int))]) (os2 := [(8, .box [.int (0 : Int), .str ByteArray.empty, .int (0 : Int), .int (0 : Int), .nilsl] 53), (14, .box (eIns x44) 62), (57, .box [.fp (eWd w71.w), .fp (eMe w71.m), .own 604, .int w71.temps, .own 605, .own 606] 107), (604, .row 5 (List.map eIns w71.out) 62), (605, .row 1 (List.map eInt w71.at_) 3), (606, .row 1 (List.map eInt w71.fix) 3)]) [] ⟨⟨rfl, (by repeat (first | exact trivial | exact rfl | (refine And.intro ?_ ?_))), (by repeat (first | exact trivial | exact rfl | (refine And.intro ?_ ?_))), rfl, (by repeat (first | exact trivial | exact rfl | (refine And.intro ?_ ?_))), rfl, rfl, rfl, rfl, (by repeat (first | exact trivial | exact rfl | (refine And.intro ?_ ?_))), (by repeat (first | exact trivial | exact rfl | (refine And.intro ?_ ?_))), rfl, rfl, trivial⟩, ⟨rfl, rfl, rfl, rfl, rfl, rfl, trivial⟩, rfl, rfl⟩ (by rw [hn]; rfl) ?_
                refine god hn (by kernel_rfl) ?_
                obtain ⟨r91, hr92, h89⟩ := bindM h89
                show CallOk Try.prog _ _ _ _
                refine CallOk.as (choose_Leaf_ok N x72 r91 hr92) (by repeat (first | exact trivial | exact rfl | (refine And.intro ?_ ?_))) trivial rfl ?_
                refine bselM h89 (fun hb93 h89 => ?_) (fun hb93 h89 => ?_)
                · refine bselT hb93 ?_
                  refine bselT hb93 ?_
                  refine bselT hb93 ?_
                  refine bselT hb93 ?_
                  refine bselT hb93 ?_
                  refine bselT hb93 ?_
                  refine bselT hb93 ?_
                  refine bselM h89 (fun hb94 h89 => ?_) (fun hb94 h89 => ?_)
                  · refine bselT hb94 ?_
                    refine bselT hb94 ?_
                    refine bselT hb94 ?_
                    refine bselT hb94 ?_
                    refine lenM (fun hl95 => ?_)
                    refine bselT hb94 ?_
                    refine bselT hb94 ?_
                    obtain ⟨r96, hr97, h89⟩ := bindM h89
                    show CallOk Try.prog _ _ _ _
                    refine CallOk.as (inline_size_ok N x72 r96 hr97) (by repeat (first | exact trivial | exact rfl | (refine And.intro ?_ ?_))) trivial rfl ?_
                    refine bselT hb94 ?_
                    refine Or.inr ?_
                    refine bselT hb94 ?_
                    refine bselT hb94 ?_
                    refine bselT hb94 ?_
                    refine bselT hb94 ?_
                    refine bselT hb94 ?_
                    refine lenM (fun hl98 => ?_)
                    refine bselT hb94 ?_
                    refine Or.inr ?_
                    refine bselT hb94 ?_
                    refine bselT hb94 ?_
                    refine Or.inr ?_
                    refine bselT hb94 ?_
                    refine bselT hb94 ?_
                    refine bselM h89 (fun hb99 h89 => ?_) (fun hb99 h89 => ?_)
                    · refine bselT hb99 ?_
                      refine bselT hb99 ?_
                      refine bselT hb99 ?_
                      refine bselT hb99 ?_
                      refine Or.inr ?_
                      refine bselT hb99 ?_
                      refine bselT hb99 ?_
                      refine bselT hb99 ?_
                      refine bselT hb99 ?_
                      refine bselT hb99 ?_
                      refine Or.inr ?_
                      refine bselT hb99 ?_
                      refine bselT hb99 ?_
                      refine bselT hb99 ?_
                      refine bselT hb99 ?_
                      refine bselT hb99 ?_
                      refine Or.inr ?_
                      refine bselT hb99 ?_
                      refine bselT hb99 ?_
                      refine qn1470 _ _ ?_
                      obtain rfl := Option.some.inj h89
                      refine EOk.done ?_
                      exact ⟨⟨_, rfl⟩, [], trivial, ⟨⟨rfl, (by repeat (first | exact trivial | exact rfl | (refine And.intro ?_ ?_))), (by repeat (first | exact trivial | exact rfl | (refine And.intro ?_ ?_))), rfl, (by repeat (first | exact trivial | exact rfl | (refine And.intro ?_ ?_))), rfl, rfl, rfl, rfl, (by repeat (first | exact trivial | exact rfl | (refine And.intro ?_ ?_))), (by repeat (first | exact trivial | exact rfl | (refine And.intro ?_ ?_))), rfl, rfl, rfl, trivial⟩, ⟨rfl, rfl, rfl, rfl, rfl, rfl, trivial⟩, rfl, rfl⟩⟩
                    · refine bselF hb99 ?_
                      refine bselF hb99 ?_
                      refine bselF hb99 ?_
                      refine bselF hb99 ?_
                      refine bselF hb99 ?_
                      refine bselF hb99 ?_
                      refine bselF hb99 ?_
                      refine bselF hb99 ?_
                      refine bselF hb99 ?_
                      refine bselF hb99 ?_
                      refine bselF hb99 ?_
                      refine bselF hb99 ?_
                      refine bselF hb99 ?_
                      refine bselF hb99 ?_
                      refine bselF hb99 ?_
                      refine bselF hb99 ?_
                      refine qn1470 _ _ ?_
                      obtain rfl := Option.some.inj h89
                      refine EOk.done ?_
                      exact ⟨⟨_, rfl⟩, [], trivial, ⟨⟨rfl, (by repeat (first | exact trivial | exact rfl | (refine And.intro ?_ ?_))), (by repeat (first | exact trivial | exact rfl | (refine And.intro ?_ ?_))), rfl, (by repeat (first | exact trivial | exact rfl | (refine And.intro ?_ ?_))), rfl, rfl, rfl, rfl, (by repeat (first | exact trivial | exact rfl | (refine And.intro ?_ ?_))), (by repeat (first | exact trivial | exact rfl | (refine And.intro ?_ ?_))), rfl, rfl, rfl, trivial⟩, ⟨rfl, rfl, rfl, rfl, rfl, rfl, trivial⟩, rfl, rfl⟩⟩
                  · refine bselF hb94 ?_
                    refine bselF hb94 ?_
                    refine bselF hb94 ?_
                    refine bselF hb94 ?_
                    refine bselF hb94 ?_
                    refine bselF hb94 ?_
                    refine bselF hb94 ?_
                    refine bselF hb94 ?_
                    refine bselF hb94 ?_
                    refine bselF hb94 ?_
                    refine bselF hb94 ?_
                    refine bselF hb94 ?_
                    refine bselF hb94 ?_
                    refine bselF hb94 ?_
                    refine bselF hb94 ?_
                    refine bselF hb94 ?_
                    refine bselF hb94 ?_
                    refine qn1470 _ _ ?_
                    obtain rfl := Option.some.inj h89
                    refine EOk.done ?_
                    exact ⟨⟨_, rfl⟩, [], trivial, ⟨⟨rfl, (by repeat (first | exact trivial | exact rfl | (refine And.intro ?_ ?_))), (by repeat (first | exact trivial | exact rfl | (refine And.intro ?_ ?_))), rfl, (by repeat (first | exact trivial | exact rfl | (refine And.intro ?_ ?_))), rfl, rfl, rfl, rfl, (by repeat (first | exact trivial | exact rfl | (refine And.intro ?_ ?_))), (by repeat (first | exact trivial | exact rfl | (refine And.intro ?_ ?_))), rfl, rfl, rfl, trivial⟩, ⟨rfl, rfl, rfl, rfl, rfl, rfl, trivial⟩, rfl, rfl⟩⟩
                · refine bselF hb93 ?_
                  refine bselF hb93 ?_
                  refine bselF hb93 ?_
                  refine bselF hb93 ?_
                  refine bselF hb93 ?_
                  refine bselF hb93 ?_
                  refine bselF hb93 ?_
                  refine qn1470 _ _ ?_
                  obtain rfl := Option.some.inj h89
                  refine EOk.done ?_
                  exact ⟨⟨_, rfl⟩, [], trivial, ⟨⟨rfl, (by repeat (first | exact trivial | exact rfl | (refine And.intro ?_ ?_))), (by repeat (first | exact trivial | exact rfl | (refine And.intro ?_ ?_))), rfl, (by repeat (first | exact trivial | exact rfl | (refine And.intro ?_ ?_))), rfl, rfl, rfl, rfl, (by repeat (first | exact trivial | exact rfl | (refine And.intro ?_ ?_))), (by repeat (first | exact trivial | exact rfl | (refine And.intro ?_ ?_))), rfl, rfl, rfl, trivial⟩, ⟨rfl, rfl, rfl, rfl, rfl, rfl, trivial⟩, rfl, rfl⟩⟩
              rintro ⟨v88, hv_⟩
              replace hv_ := hv_.symm
              subst hv_
              refine qn1469 _ _ ?_
              refine goc hn ?_
              refine bselM h54 (fun hb100 h54 => ?_) (fun hb100 h54 => ?_)
              · refine COk.seqQ fun Q1473 qn1473 qx1473 qr1473 => ?_
                refine god hn (by kernel_rfl) ?_
                obtain ⟨x101, hx102, h54⟩ := bindM h54
                refine idxM hx102 ?_
                obtain ⟨r103, hr104, h54⟩ := bindM h54
                show CallOk Try.prog _ _ _ _
                refine CallOk.as ((((((((inline_writer_send_ok N (⟨w71.w, w71.m, w71.out, w71.temps, w71.at_, w71.fix⟩ : TWriter) x101 (k17 : Int) x44 x72 r103 hr104).sw 1000 57).sw 1001 604).sw 1002 605).sw 1003 606).sw 2 607).sw 3 608).sw 4 609) (by repeat (first | exact trivial | exact rfl | (refine And.intro ?_ ?_))) (by repeat (first | exact trivial | exact rfl | (refine And.intro ?_ ?_))) rfl ?_
                refine qn1473 _ _ ?_
                refine COk.seqQ fun Q1474 qn1474 qx1474 qr1474 => ?_
                refine COk.sub (ts2 := [(1, .int a1), (3, .sl 1 (List.map eInt a3)), (4, .fp (eWd a0)), (8, .ptr 8 0), (10, .fp (eMe x14)), (11, .ptr 57 0), (61, .sl 5 (List.map eIns x14.code)), (62, .int (x14.code.length : Int)), (63, .int (k17 : Int))]) (os2 := [(8, .box [.int (0 : Int), .str ByteArray.empty, .int (0 : Int), .int (0 : Int), .nilsl] 53), (57, .box [.fp (eWd r103.w), .fp (eMe r103.m), .own 607, .int r103.temps, .own 608, .own 609] 107), (607, .row 5 (List.map eIns r103.out) 62), (608, .row 1 (List.map eInt r103.at_) 3), (609, .row 1 (List.map eInt r103.fix) 3)]) [] ⟨⟨rfl, (by repeat (first | exact trivial | exact rfl | (refine And.intro ?_ ?_))), (by repeat (first | exact trivial | exact rfl | (refine And.intro ?_ ?_))), rfl, (by repeat (first | exact trivial | exact rfl | (refine And.intro ?_ ?_))), rfl, (by repeat (first | exact trivial | exact rfl | (refine And.intro ?_ ?_))), rfl, rfl, trivial⟩, ⟨rfl, rfl, rfl, rfl, rfl, trivial⟩, rfl, rfl⟩ (by rw [hn]; rfl) ?_
                refine gor hn ?_
                refine qn1474 _ _ ?_
                refine goe hn ?_
                refine qx1449 _ _ _ ?_
                refine qe1446 _ _ ?_
                refine qn1445 _ _ ?_
                obtain rfl := Option.some.inj h54
                refine EOk.done ?_
                exact ⟨⟨_, rfl⟩, [(203, 607), (605, 608), (188, 609)], trivial, ⟨⟨rfl, (by repeat (first | exact trivial | exact rfl | (refine And.intro ?_ ?_))), (by repeat (first | exact trivial | exact rfl | (refine And.intro ?_ ?_))), rfl, (by repeat (first | exact trivial | exact rfl | (refine And.intro ?_ ?_))), rfl, rfl, (by repeat (first | exact trivial | exact rfl | (refine And.intro ?_ ?_))), rfl, rfl, trivial⟩, ⟨rfl, rfl, rfl, rfl, rfl, trivial⟩, rfl, rfl⟩⟩
              · refine gok hn ?_
                refine qn1449 _ _ ?_
                refine COk.seqQ fun Q1475 qn1475 qx1475 qr1475 => ?_
                refine COk.seqQ fun Q1476 qn1476 qx1476 qr1476 => ?_
                obtain ⟨o107, h106, h54⟩ := bindM h54
                refine COk.joinR (ι := { s : Bool // o107 = s }) (fun s => [(1, .int a1), (3, .sl 1 (List.map eInt a3)), (4, .fp (eWd a0)), (8, .ptr 8 0), (10, .fp (eMe x14)), (11, .ptr 57 0), (12, .bool v24), (13, .int (k17 : Int)), (14, .ptr 14 0), (61, .sl 5 (List.map eIns x14.code)), (62, .int (x14.code.length : Int)), (63, .int (k17 : Int)), (176, .bool s.1)]) (fun s => [(8, .box [.int (0 : Int), .str ByteArray.empty, .int (0 : Int), .int (0 : Int), .nilsl] 53), (14, .box (eIns x44) 62), (57, .box [.fp (eWd w71.w), .fp (eMe w71.m), .own 604, .int w71.temps, .own 605, .own 606] 107), (604, .row 5 (List.map eIns w71.out) 62), (605, .row 1 (List.map eInt w71.at_) 3), (606, .row 1 (List.map eInt w71.fix) 3)]) (fun Q1477 qn1477 qx1477 qr1477 => ?_) (by intro s; rw [hn]; rfl) ?_
                · refine gor hn ?_
                  refine bselM h106 (fun hb108 h106 => ?_) (fun hb108 h106 => ?_)
                  · refine bselT hb108 ?_
                    refine bselT hb108 ?_
                    refine bselT hb108 ?_
                    refine qn1477 _ _ ?_
                    obtain rfl := Option.some.inj h106
                    refine EOk.done ?_
                    exact ⟨⟨_, rfl⟩, [], trivial, ⟨⟨rfl, (by repeat (first | exact trivial | exact rfl | (refine And.intro ?_ ?_))), (by repeat (first | exact trivial | exact rfl | (refine And.intro ?_ ?_))), rfl, (by repeat (first | exact trivial | exact rfl | (refine And.intro ?_ ?_))), rfl, rfl, rfl, rfl, (by repeat (first | exact trivial | exact rfl | (refine And.intro ?_ ?_))), rfl, rfl, rfl, trivial⟩, ⟨rfl, rfl, rfl, rfl, rfl, rfl, trivial⟩, rfl, rfl⟩⟩
                  · refine bselF hb108 ?_
                    refine bselF hb108 ?_
                    refine bselF hb108 ?_
                    refine qn1477 _ _ ?_
                    obtain rfl := Option.some.inj h106
                    refine EOk.done ?_
                    exact ⟨⟨_, rfl⟩, [], trivial, ⟨⟨rfl, (by repeat (first | exact trivial | exact rfl | (refine And.intro ?_ ?_))), (by repeat (first | exact trivial | exact rfl | (refine And.intro ?_ ?_))), rfl, (by repeat (first | exact trivial | exact rfl | (refine And.intro ?_ ?_))), rfl, rfl, rfl, rfl, (by repeat (first | exact trivial | exact rfl | (refine And.intro ?_ ?_))), rfl, rfl, rfl, trivial⟩, ⟨rfl, rfl, rfl, rfl, rfl, rfl, trivial⟩, rfl, rfl⟩⟩
                rintro ⟨v105, hv_⟩
                replace hv_ := hv_.symm
                subst hv_
                refine qn1476 _ _ ?_
                obtain ⟨o111, h110, h54⟩ := bindM h54
                refine COk.joinR (ι := { s : (List Int) // o111 = s }) (fun s => [(1, .int a1), (3, .sl 1 (List.map eInt a3)), (4, .fp (eWd a0)), (8, .ptr 8 0), (10, .fp (eMe x14)), (11, .ptr 57 0), (12, .bool v24), (13, .int (k17 : Int)), (14, .ptr 14 0), (61, .sl 5 (List.map eIns x14.code)), (62, .int (x14.code.length : Int)), (63, .int (k17 : Int))]) (fun s => [(8, .box [.int (0 : Int), .str ByteArray.empty, .int (0 : Int), .int (0 : Int), .nilsl] 53), (14, .box (eIns x44) 62), (57, .box [.fp (eWd w71.w), .fp (eMe w71.m), .own 604, .int w71.temps, .own 605, .own 188] 107), (188, .row 1 (List.map eInt s.1) 3), (604, .row 5 (List.map eIns w71.out) 62), (605, .row 1 (List.map eInt w71.at_) 3)]) (fun Q1478 qn1478 qx1478 qr1478 => ?_) (by intro s; rw [hn]; rfl) ?_
                · refine goc hn ?_
                  refine bselM h110 (fun hb112 h110 => ?_) (fun hb112 h110 => ?_)
                  · refine god hn (by kernel_rfl) ?_
                    refine lenM (fun hl113 => ?_)
                    refine Exists.intro (List.map eInt [(w71.out.length : Int)]) (And.intro (by repeat (first | exact trivial | exact rfl | (refine And.intro ?_ ?_))) ?_)
                    obtain ⟨hg114, h110⟩ := guardM h110
                    refine appM (l2 := [(w71.out.length : Int)]) hg114 (leLs_refl _) ?_
                    refine qn1478 _ _ ?_
                    obtain rfl := Option.some.inj h110
                    refine EOk.done ?_
                    exact ⟨⟨_, rfl⟩, [], trivial, ⟨⟨rfl, (by repeat (first | exact trivial | exact rfl | (refine And.intro ?_ ?_))), (by repeat (first | exact trivial | exact rfl | (refine And.intro ?_ ?_))), rfl, (by repeat (first | exact trivial | exact rfl | (refine And.intro ?_ ?_))), rfl, rfl, rfl, rfl, (by repeat (first | exact trivial | exact rfl | (refine And.intro ?_ ?_))), rfl, rfl, trivial⟩, ⟨rfl, rfl, rfl, rfl, rfl, rfl, trivial⟩, rfl, rfl⟩⟩
                  · refine gok hn ?_
                    refine qn1478 _ _ ?_
                    obtain rfl := Option.some.inj h110
                    refine EOk.done ?_
                    exact ⟨⟨_, rfl⟩, [(188, 606)], trivial, ⟨⟨rfl, (by repeat (first | exact trivial | exact rfl | (refine And.intro ?_ ?_))), (by repeat (first | exact trivial | exact rfl | (refine And.intro ?_ ?_))), rfl, (by repeat (first | exact trivial | exact rfl | (refine And.intro ?_ ?_))), rfl, rfl, rfl, rfl, (by repeat (first | exact trivial | exact rfl | (refine And.intro ?_ ?_))), rfl, rfl, trivial⟩, ⟨rfl, rfl, rfl, rfl, rfl, rfl, trivial⟩, rfl, rfl⟩⟩
                rintro ⟨v109, hv_⟩
                replace hv_ := hv_.symm
                subst hv_
                refine qn1475 _ _ ?_
                refine COk.seqQ fun Q1479 qn1479 qx1479 qr1479 => ?_
                refine COk.seqQ fun Q1480 qn1480 qx1480 qr1480 => ?_
                refine gor hn ?_
                refine qn1480 _ _ ?_
                obtain ⟨o117, h116, h54⟩ := bindM h54
                refine COk.joinR (ι := { s : Ins // o117 = s }) (fun s => [(1, .int a1), (3, .sl 1 (List.map eInt a3)), (4, .fp (eWd a0)), (8, .ptr 8 0), (10, .fp (eMe x14)), (11, .ptr 57 0), (12, .bool v24), (14, .ptr 14 0), (61, .sl 5 (List.map eIns x14.code)), (62, .int (x14.code.length : Int)), (63, .int (k17 : Int))]) (fun s => [(8, .box [.int (0 : Int), .str ByteArray.empty, .int (0 : Int), .int (0 : Int), .nilsl] 53), (14, .box (eIns s.1) 62), (57, .box [.fp (eWd w71.w), .fp (eMe w71.m), .own 604, .int w71.temps, .own 605, .own 188] 107), (188, .row 1 (List.map eInt v109) 3), (604, .row 5 (List.map eIns w71.out) 62), (605, .row 1 (List.map eInt w71.at_) 3)]) (fun Q1481 qn1481 qx1481 qr1481 => ?_) (by intro s; rw [hn]; rfl) ?_
                · refine goc hn ?_
                  refine bselM h116 (fun hb118 h116 => ?_) (fun hb118 h116 => ?_)
                  · refine gor hn ?_
                    refine qn1481 _ _ ?_
                    obtain rfl := Option.some.inj h116
                    refine EOk.done ?_
                    exact ⟨⟨_, rfl⟩, [], trivial, ⟨⟨rfl, (by repeat (first | exact trivial | exact rfl | (refine And.intro ?_ ?_))), (by repeat (first | exact trivial | exact rfl | (refine And.intro ?_ ?_))), rfl, (by repeat (first | exact trivial | exact rfl | (refine And.intro ?_ ?_))), rfl, rfl, rfl, (by repeat (first | exact trivial | exact rfl | (refine And.intro ?_ ?_))), rfl, rfl, trivial⟩, ⟨rfl, rfl, rfl, rfl, rfl, rfl, trivial⟩, rfl, rfl⟩⟩
                  · refine gok hn ?_
                    refine qn1481 _ _ ?_
                    obtain rfl := Option.some.inj h116
                    refine EOk.done ?_
                    exact ⟨⟨_, rfl⟩, [], trivial, ⟨⟨rfl, (by repeat (first | exact trivial | exact rfl | (refine And.intro ?_ ?_))), (by repeat (first | exact trivial | exact rfl | (refine And.intro ?_ ?_))), rfl, (by repeat (first | exact trivial | exact rfl | (refine And.intro ?_ ?_))), rfl, rfl, rfl, (by repeat (first | exact trivial | exact rfl | (refine And.intro ?_ ?_))), rfl, rfl, trivial⟩, ⟨rfl, rfl, rfl, rfl, rfl, rfl, trivial⟩, rfl, rfl⟩⟩
                rintro ⟨v115, hv_⟩
                replace hv_ := hv_.symm
                subst hv_
                refine qn1479 _ _ ?_
                refine god hn (by kernel_rfl) ?_
                refine Exists.intro (List.map eIns [v115]) (And.intro (by repeat (first | exact trivial | exact rfl | (refine And.intro ?_ ?_))) ?_)
                obtain ⟨hg119, h54⟩ := guardM h54
                refine appM (l2 := [v115]) hg119 (leLs_refl _) ?_
                refine qn1446 _ _ ?_
                refine qn1445 _ _ ?_
                obtain rfl := Option.some.inj h54
                refine EOk.done ?_
                exact ⟨⟨_, rfl⟩, [], trivial, ⟨⟨rfl, (by repeat (first | exact trivial | exact rfl | (refine And.intro ?_ ?_))), (by repeat (first | exact trivial | exact rfl | (refine And.intro ?_ ?_))), rfl, (by repeat (first | exact trivial | exact rfl | (refine And.intro ?_ ?_))), rfl, rfl, (by repeat (first | exact trivial | exact rfl | (refine And.intro ?_ ?_))), rfl, rfl, trivial⟩, ⟨rfl, rfl, rfl, rfl, rfl, trivial⟩, rfl, rfl⟩⟩
          · refine gok hn ?_
            refine qn1449 _ _ ?_
            refine COk.seqQ fun Q1482 qn1482 qx1482 qr1482 => ?_
            refine COk.seqQ fun Q1483 qn1483 qx1483 qr1483 => ?_
            obtain ⟨o122, h121, h54⟩ := bindM h54
            refine COk.joinR (ι := { s : Bool // o122 = s }) (fun s => [(1, .int a1), (3, .sl 1 (List.map eInt a3)), (4, .fp (eWd a0)), (8, .ptr 8 0), (10, .fp (eMe x14)), (11, .ptr 57 0), (12, .bool v24), (13, .int (k17 : Int)), (14, .ptr 14 0), (61, .sl 5 (List.map eIns x14.code)), (62, .int (x14.code.length : Int)), (63, .int (k17 : Int)), (176, .bool s.1)]) (fun s => [(8, .box [.int (0 : Int), .str ByteArray.empty, .int (0 : Int), .int (0 : Int), .nilsl] 53), (14, .box (eIns x44) 62), (57, .box [.fp (eWd v18), .fp (eMe v19), .own 601, .int v21, .own 79, .own 603] 107), (79, .row 1 (List.map eInt (v22 ++ [(v20.length : Int)])) 3), (601, .row 5 (List.map eIns v20) 62), (603, .row 1 (List.map eInt v23) 3)]) (fun Q1484 qn1484 qx1484 qr1484 => ?_) (by intro s; rw [hn]; rfl) ?_
            · refine gor hn ?_
              refine bselM h121 (fun hb123 h121 => ?_) (fun hb123 h121 => ?_)
              · refine bselT hb123 ?_
                refine bselT hb123 ?_
                refine bselT hb123 ?_
                refine qn1484 _ _ ?_
                obtain rfl := Option.some.inj h121
                refine EOk.done ?_
                exact ⟨⟨_, rfl⟩, [], trivial, ⟨⟨rfl, (by repeat (first | exact trivial | exact rfl | (refine And.intro ?_ ?_))), (by repeat (first | exact trivial | exact rfl | (refine And.intro ?_ ?_))), rfl, (by repeat (first | exact trivial | exact rfl | (refine And.intro ?_ ?_))), rfl, rfl, rfl, rfl, (by repeat (first | exact trivial | exact rfl | (refine And.intro ?_ ?_))), rfl, rfl, rfl, trivial⟩, ⟨rfl, rfl, rfl, rfl, rfl, rfl, trivial⟩, rfl, rfl⟩⟩
              · refine bselF hb123 ?_
                refine bselF hb123 ?_
                refine bselF hb123 ?_
                refine qn1484 _ _ ?_
                obtain rfl := Option.some.inj h121
                refine EOk.done ?_
                exact ⟨⟨_, rfl⟩, [], trivial, ⟨⟨rfl, (by repeat (first | exact trivial | exact rfl | (refine And.intro ?_ ?_))), (by repeat (first | exact trivial | exact rfl | (refine And.intro ?_ ?_))), rfl, (by repeat (first | exact trivial | exact rfl | (refine And.intro ?_ ?_))), rfl, rfl, rfl, rfl, (by repeat (first | exact trivial | exact rfl | (refine And.intro ?_ ?_))), rfl, rfl, rfl, trivial⟩, ⟨rfl, rfl, rfl, rfl, rfl, rfl, trivial⟩, rfl, rfl⟩⟩
            rintro ⟨v120, hv_⟩
            replace hv_ := hv_.symm
            subst hv_
            refine qn1483 _ _ ?_
            obtain ⟨o126, h125, h54⟩ := bindM h54
            refine COk.joinR (ι := { s : (List Int) // o126 = s }) (fun s => [(1, .int a1), (3, .sl 1 (List.map eInt a3)), (4, .fp (eWd a0)), (8, .ptr 8 0), (10, .fp (eMe x14)), (11, .ptr 57 0), (12, .bool v24), (13, .int (k17 : Int)), (14, .ptr 14 0), (61, .sl 5 (List.map eIns x14.code)), (62, .int (x14.code.length : Int)), (63, .int (k17 : Int))]) (fun s => [(8, .box [.int (0 : Int), .str ByteArray.empty, .int (0 : Int), .int (0 : Int), .nilsl] 53), (14, .box (eIns x44) 62), (57, .box [.fp (eWd v18), .fp (eMe v19), .own 601, .int v21, .own 79, .own 188] 107), (79, .row 1 (List.map eInt (v22 ++ [(v20.length : Int)])) 3), (188, .row 1 (List.map eInt s.1) 3), (601, .row 5 (List.map eIns v20) 62)]) (fun Q1485 qn1485 qx1485 qr1485 => ?_) (by intro s; rw [hn]; rfl) ?_
            · refine goc hn ?_
              refine bselM h125 (fun hb127 h125 => ?_) (fun hb127 h125 => ?_)
              · refine god hn (by kernel_rfl) ?_
                refine lenM (fun hl128 => ?_)
                refine Exists.intro (List.map eInt [(v20.length : Int)]) (And.intro (by repeat (first | exact trivial | exact rfl | (refine And.intro ?_ ?_))) ?_)
                obtain ⟨hg129, h125⟩ := guardM h125
                refine appM (l2 := [(v20.length : Int)]) hg129 (leLs_refl _) ?_
                refine qn1485 _ _ ?_
                obtain rfl := Option.some.inj h125
                refine EOk.done ?_
                exact ⟨⟨_, rfl⟩, [], trivial, ⟨⟨rfl, (by repeat (first | exact trivial | exact rfl | (refine And.intro ?_ ?_))), (by repeat (first | exact trivial | exact rfl | (refine And.intro ?_ ?_))), rfl, (by repeat (first | exact trivial | exact rfl | (refine And.intro ?_ ?_))), rfl, rfl, rfl, rfl, (by repeat (first | exact trivial | exact rfl | (refine And.intro ?_ ?_))), rfl, rfl, trivial⟩, ⟨rfl, rfl, rfl, rfl, rfl, rfl, trivial⟩, rfl, rfl⟩⟩
              · refine gok hn ?_
                refine qn1485 _ _ ?_
                obtain rfl := Option.some.inj h125
                refine EOk.done ?_
                exact ⟨⟨_, rfl⟩, [(188, 603)], trivial, ⟨⟨rfl, (by repeat (first | exact trivial | exact rfl | (refine And.intro ?_ ?_))), (by repeat (first | exact trivial | exact rfl | (refine And.intro ?_ ?_))), rfl, (by repeat (first | exact trivial | exact rfl | (refine And.intro ?_ ?_))), rfl, rfl, rfl, rfl, (by repeat (first | exact trivial | exact rfl | (refine And.intro ?_ ?_))), rfl, rfl, trivial⟩, ⟨rfl, rfl, rfl, rfl, rfl, rfl, trivial⟩, rfl, rfl⟩⟩
            rintro ⟨v124, hv_⟩
            replace hv_ := hv_.symm
            subst hv_
            refine qn1482 _ _ ?_
            refine COk.seqQ fun Q1486 qn1486 qx1486 qr1486 => ?_
            refine COk.seqQ fun Q1487 qn1487 qx1487 qr1487 => ?_
            refine gor hn ?_
            refine qn1487 _ _ ?_
            obtain ⟨o132, h131, h54⟩ := bindM h54
            refine COk.joinR (ι := { s : Ins // o132 = s }) (fun s => [(1, .int a1), (3, .sl 1 (List.map eInt a3)), (4, .fp (eWd a0)), (8, .ptr 8 0), (10, .fp (eMe x14)), (11, .ptr 57 0), (12, .bool v24), (14, .ptr 14 0), (61, .sl 5 (List.map eIns x14.code)), (62, .int (x14.code.length : Int)), (63, .int (k17 : Int))]) (fun s => [(8, .box [.int (0 : Int), .str ByteArray.empty, .int (0 : Int), .int (0 : Int), .nilsl] 53), (14, .box (eIns s.1) 62), (57, .box [.fp (eWd v18), .fp (eMe v19), .own 601, .int v21, .own 79, .own 188] 107), (79, .row 1 (List.map eInt (v22 ++ [(v20.length : Int)])) 3), (188, .row 1 (List.map eInt v124) 3), (601, .row 5 (List.map eIns v20) 62)]) (fun Q1488 qn1488 qx1488 qr1488 => ?_) (by intro s; rw [hn]; rfl) ?_
            · refine goc hn ?_
              refine bselM h131 (fun hb133 h131 => ?_) (fun hb133 h131 => ?_)
              · refine gor hn ?_
                refine qn1488 _ _ ?_
                obtain rfl := Option.some.inj h131
                refine EOk.done ?_
                exact ⟨⟨_, rfl⟩, [], trivial, ⟨⟨rfl, (by repeat (first | exact trivial | exact rfl | (refine And.intro ?_ ?_))), (by repeat (first | exact trivial | exact rfl | (refine And.intro ?_ ?_))), rfl, (by repeat (first | exact trivial | exact rfl | (refine And.intro ?_ ?_))), rfl, rfl, rfl, (by repeat (first | exact trivial | exact rfl | (refine And.intro ?_ ?_))), rfl, rfl, trivial⟩, ⟨rfl, rfl, rfl, rfl, rfl, rfl, trivial⟩, rfl, rfl⟩⟩
              · refine gok hn ?_
                refine qn1488 _ _ ?_
                obtain rfl := Option.some.inj h131
                refine EOk.done ?_
                exact ⟨⟨_, rfl⟩, [], trivial, ⟨⟨rfl, (by repeat (first | exact trivial | exact rfl | (refine And.intro ?_ ?_))), (by repeat (first | exact trivial | exact rfl | (refine And.intro ?_ ?_))), rfl, (by repeat (first | exact trivial | exact rfl | (refine And.intro ?_ ?_))), rfl, rfl, rfl, (by repeat (first | exact trivial | exact rfl | (refine And.intro ?_ ?_))), rfl, rfl, trivial⟩, ⟨rfl, rfl, rfl, rfl, rfl, rfl, trivial⟩, rfl, rfl⟩⟩
            rintro ⟨v130, hv_⟩
            replace hv_ := hv_.symm
            subst hv_
            refine qn1486 _ _ ?_
            refine god hn (by kernel_rfl) ?_
            refine Exists.intro (List.map eIns [v130]) (And.intro (by repeat (first | exact trivial | exact rfl | (refine And.intro ?_ ?_))) ?_)
            obtain ⟨hg134, h54⟩ := guardM h54
            refine appM (l2 := [v130]) hg134 (leLs_refl _) ?_
            refine qn1446 _ _ ?_
            refine qn1445 _ _ ?_
            obtain rfl := Option.some.inj h54
            refine EOk.done ?_
            exact ⟨⟨_, rfl⟩, [(605, 79)], trivial, ⟨⟨rfl, (by repeat (first | exact trivial | exact rfl | (refine And.intro ?_ ?_))), (by repeat (first | exact trivial | exact rfl | (refine And.intro ?_ ?_))), rfl, (by repeat (first | exact trivial | exact rfl | (refine And.intro ?_ ?_))), rfl, rfl, (by repeat (first | exact trivial | exact rfl | (refine And.intro ?_ ?_))), rfl, rfl, trivial⟩, ⟨rfl, rfl, rfl, rfl, rfl, trivial⟩, rfl, rfl⟩⟩
        rintro ⟨⟨v47, v48, v49, v50, v51, v52, v53⟩, rfl⟩
        refine qn1358 _ _ ?_
        refine gor hn ?_
        refine Or.inl (And.intro (inrK hx45 hl16) ?_)
        refine qn1353 _ _ ?_
        refine EOk.done ?_
        exact ⟨⟨(rest41, k17 + 1, v47, v48, v49, v50, v51, v52, v53), hd2, h40⟩, [(601, 203), (602, 605), (603, 188)], by show rest41.length < rest41.length + 1; omega, ⟨⟨rfl, (by repeat (first | exact trivial | exact rfl | (refine And.intro ?_ ?_))), (by repeat (first | exact trivial | exact rfl | (refine And.intro ?_ ?_))), rfl, (by repeat (first | exact trivial | exact rfl | (refine And.intro ?_ ?_))), rfl, rfl, (by repeat (first | exact trivial | exact rfl | (refine And.intro ?_ ?_))), rfl, rfl, trivial⟩, ⟨rfl, rfl, rfl, rfl, rfl, trivial⟩, rfl, rfl⟩⟩
    rintro ⟨⟨v32, v33, v34, v35, v36, v37, v38⟩, rfl⟩
    refine qn774 _ _ ?_
    refine COk.seqQ fun Q1489 qn1489 qx1489 qr1489 => ?_
    refine COk.seqQ fun Q1490 qn1490 qx1490 qr1490 => ?_
    refine gor hn ?_
    refine qn1490 _ _ ?_
    refine goc hn ?_
    refine bselM h (fun hb135 h => ?_) (fun hb135 h => ?_)
    · refine COk.seqQ fun Q1492 qn1492 qx1492 qr1492 => ?_
      refine gor hn ?_
      refine qn1492 _ _ ?_
      refine got hn ?_
      refine qr1489 _ _ ?_
      obtain rfl := Option.some.inj h
      exact ⟨[], _, rfl, (by repeat (first | exact trivial | exact rfl | (refine And.intro ?_ ?_))), trivial, rfl, rfl, rfl, rfl, rfl⟩
    · refine gok hn ?_
      refine qn1489 _ _ ?_
      refine COk.seqQ fun Q1493 qn1493 qx1493 qr1493 => ?_
      refine COk.seqQ fun Q1494 qn1494 qx1494 qr1494 => ?_
      refine gor hn ?_
      refine lenM (fun hl136 => ?_)
      refine qn1494 _ _ ?_
      obtain ⟨o141, h142, h⟩ := bindM h
      refine COk.joinR (ι := { s : (List Ins) // o141 = s }) (fun s => [(1, .int a1), (4, .fp (eWd a0)), (8, .ptr 8 0), (10, .fp (eMe x14)), (11, .ptr 57 0)]) (fun s => [(8, .box [.int (0 : Int), .str ByteArray.empty, .int (0 : Int), .int (0 : Int), .nilsl] 53), (57, .box [.fp (eWd v32), .fp (eMe v33), .own 601, .int v35, .own 602, .own 603] 107), (601, .row 5 (List.map eIns s.1) 62), (602, .row 1 (List.map eInt v36) 3), (603, .row 1 (List.map eInt v37) 3)]) (fun Q1516 qn1516 qx1516 qr1516 => ?_) (by intro s; rw [hn]; rfl) ?_
      · refine COk.blkQ fun Q1517 qn1517 qe1517 qx1517 qr1517 => ?_
        refine COk.loopQ (ι := { q : ((List Int) × Nat × (List Ins)) // q.1 = v37.drop q.2.1 ∧ inline_Method_l2 N v36 v37 q.1 q.2.1 q.2.2 = some o141 }) (fun q => [(1, .int a1), (4, .fp (eWd a0)), (8, .ptr 8 0), (10, .fp (eMe x14)), (11, .ptr 57 0), (213, .own 603), (214, .int (v37.length : Int)), (215, .int (q.1.2.1 : Int))]) (fun q => [(8, .box [.int (0 : Int), .str ByteArray.empty, .int (0 : Int), .int (0 : Int), .nilsl] 53), (57, .box [.fp (eWd v32), .fp (eMe v33), .own 601, .int v35, .own 602, .own 603] 107), (601, .row 5 (List.map eIns q.1.2.2) 62), (602, .row 1 (List.map eInt v36) 3), (603, .row 1 (List.map eInt v37) 3)]) (fun q => q.1.1.length) ⟨(v37, 0, v34), rfl, h142⟩ [] ⟨⟨rfl, (by repeat (first | exact trivial | exact rfl | (refine And.intro ?_ ?_))), rfl, (by repeat (first | exact trivial | exact rfl | (refine And.intro ?_ ?_))), rfl, rfl, rfl, rfl, trivial⟩, ⟨rfl, rfl, rfl, rfl, rfl, trivial⟩, rfl, rfl⟩ (by intro q; rw [hn]; rfl) ?_
        rintro ⟨⟨rest_, k137, v138⟩, hd144, h142⟩ Q1518 qn1518 qx1518 qr1518
        replace hd144 : rest_ = v37.drop k137 := hd144
        rcases rest_ with _ | ⟨x146, rest143⟩
        · have hlt148 := restNil hd144
          replace h142 := (inline_Method_l2.eq_1 _ _ _ _ _).symm.trans h142
          refine COk.seqQ fun Q1519 qn1519 qx1519 qr1519 => ?_
          refine gor hn ?_
          refine qn1519 _ _ ?_
          refine COk.seqQ fun Q1520 qn1520 qx1520 qr1520 => ?_
          refine goc hn ?_
          refine bselF hlt148 ?_
          refine goe hn ?_
          refine qx1520 _ _ _ ?_
          refine qx1518 _ _ _ ?_
          refine qe1517 _ _ ?_
          refine qn1516 _ _ ?_
          obtain rfl := Option.some.inj h142
          refine EOk.done ?_
          exact ⟨⟨_, rfl⟩, [], trivial, ⟨⟨rfl, (by repeat (first | exact trivial | exact rfl | (refine And.intro ?_ ?_))), rfl, (by repeat (first | exact trivial | exact rfl | (refine And.intro ?_ ?_))), rfl, trivial⟩, ⟨rfl, rfl, rfl, rfl, rfl, trivial⟩, rfl, rfl⟩⟩
        · obtain ⟨hx147, hd2, hlt148⟩ := restCons hd144
          replace h142 := (inline_Method_l2.eq_2 _ _ _ _ _ _ _).symm.trans h142
          refine COk.seqQ fun Q1521 qn1521 qx1521 qr1521 => ?_
          refine gor hn ?_
          refine qn1521 _ _ ?_
          refine COk.seqQ fun Q1522 qn1522 qx1522 qr1522 => ?_
          refine goc hn ?_
          refine bselT hlt148 ?_
          refine gok hn ?_
          refine qn1522 _ _ ?_
          refine COk.seqQ fun Q1523 qn1523 qx1523 qr1523 => ?_
          refine COk.blkQ fun Q1526 qn1526 qe1526 qx1526 qr1526 => ?_
          refine COk.seqQ fun Q1527 qn1527 qx1527 qr1527 => ?_
          refine gor hn ?_
          obtain ⟨x149, hx150, h142⟩ := bindM h142
          refine ownM hx150 ?_
          refine ldM (nthO_some hx150).2 ?_
          refine qn1527 _ _ ?_
          refine COk.sub (ts2 := [(1, .int a1), (4, .fp (eWd a0)), (8, .ptr 8 0), (10, .fp (eMe x14)), (11, .ptr 57 0), (17, .int x149), (213, .own 603), (214, .int (v37.length : Int)), (215, .int (k137 : Int))]) (os2 := [(8, .box [.int (0 : Int), .str ByteArray.empty, .int (0 : Int), .int (0 : Int), .nilsl] 53), (57, .box [.fp (eWd v32), .fp (eMe v33), .own 601, .int v35, .own 602, .own 603] 107), (601, .row 5 (List.map eIns v138) 62), (602, .row 1 (List.map eInt v36) 3), (603, .row 1 (List.map eInt v37) 3)]) [] ⟨⟨rfl, (by repeat (first | exact trivial | exact rfl | (refine And.intro ?_ ?_))), rfl, (by repeat (first | exact trivial | exact rfl | (refine And.intro ?_ ?_))), rfl, rfl, rfl, rfl, rfl, trivial⟩, ⟨rfl, rfl, rfl, rfl, rfl, trivial⟩, rfl, rfl⟩ (by rw [hn]; rfl) ?_
          refine god hn (by kernel_rfl) ?_
          obtain ⟨x151, hx152, h142⟩ := bindM h142
          refine ownM hx152 ?_
          refine ldM (nthO_some hx152).2 ?_
          obtain ⟨x153, hx154, h142⟩ := bindM h142
          refine ownM hx154 ?_
          refine ldM (nthO_some hx154).2 ?_
          obtain ⟨x155, hx156, h142⟩ := bindM h142
          refine ownM hx156 ?_
          refine ldM (nthO_some hx156).2 ?_
          refine Exists.intro (List.map eIns (v138.set x149.toNat (⟨x155.op, x153, x155.b, x155.c, x155.name⟩ : Ins))) (And.intro (leLs_set (nthO_some hx156).2 (by repeat (first | exact trivial | exact rfl | (refine And.intro ?_ ?_)))) ?_)
          refine qn1526 _ _ ?_
          refine qn1523 _ _ ?_
          refine COk.sub (ts2 := [(1, .int a1), (4, .fp (eWd a0)), (8, .ptr 8 0), (10, .fp (eMe x14)), (11, .ptr 57 0), (213, .own 603), (214, .int (v37.length : Int)), (215, .int (k137 : Int))]) (os2 := [(8, .box [.int (0 : Int), .str ByteArray.empty, .int (0 : Int), .int (0 : Int), .nilsl] 53), (57, .box [.fp (eWd v32), .fp (eMe v33), .own 601, .int v35, .own 602, .own 603] 107), (601, .row 5 (List.map eIns (v138.set x149.toNat (⟨x155.op, x153, x155.b, x155.c, x155.name⟩ : Ins))) 62), (602, .row 1 (List.map eInt v36) 3), (603, .row 1 (List.map eInt v37) 3)]) [] ⟨⟨rfl, (by repeat (first | exact trivial | exact rfl | (refine And.intro ?_ ?_))), rfl, (by repeat (first | exact trivial | exact rfl | (refine And.intro ?_ ?_))), rfl, rfl, rfl, rfl, trivial⟩, ⟨rfl, rfl, rfl, rfl, rfl, trivial⟩, rfl, rfl⟩ (by rw [hn]; rfl) ?_
          refine gor hn ?_
          refine Or.inl (And.intro (inrK hx147 hl136) ?_)
          refine qn1518 _ _ ?_
          refine EOk.done ?_
          exact ⟨⟨(rest143, k137 + 1, (v138.set x149.toNat (⟨x155.op, x153, x155.b, x155.c, x155.name⟩ : Ins))), hd2, h142⟩, [], by show rest143.length < rest143.length + 1; omega, ⟨⟨rfl, (by repeat (first | exact trivial | exact rfl | (refine And.intro ?_ ?_))), rfl, (by repeat (first | exact trivial | exact rfl | (refine And.intro ?_ ?_))), rfl, rfl, rfl, rfl, trivial⟩, ⟨rfl, rfl, rfl, rfl, rfl, trivial⟩, rfl, rfl⟩⟩
      rintro ⟨v140, hv_⟩
      replace hv_ := hv_.symm
      subst hv_
      refine qn1493 _ _ ?_
      refine COk.seqQ fun Q1528 qn1528 qx1528 qr1528 => ?_
      refine COk.sub (ts2 := [(1, .int a1), (4, .fp (eWd a0)), (8, .ptr 8 0), (10, .fp (eMe x14)), (11, .ptr 57 0)]) (os2 := [(8, .box [.int (0 : Int), .str ByteArray.empty, .int (0 : Int), .int (0 : Int), .nilsl] 53), (57, .box [.fp (eWd v32), .fp (eMe v33), .own 601, .int v35, .own 602, .own 603] 107), (601, .row 5 (List.map eIns v140) 62), (602, .row 1 (List.map eInt v36) 3), (603, .row 1 (List.map eInt v37) 3)]) [] ⟨⟨rfl, (by repeat (first | exact trivial | exact rfl | (refine And.intro ?_ ?_))), rfl, (by repeat (first | exact trivial | exact rfl | (refine And.intro ?_ ?_))), rfl, trivial⟩, ⟨rfl, rfl, rfl, rfl, rfl, trivial⟩, rfl, rfl⟩ (by rw [hn]; rfl) ?_
      refine god hn (by kernel_rfl) ?_
      refine qn1528 _ _ ?_
      refine COk.fzAll 601 rfl ?_
      refine got hn ?_
      obtain rfl := Option.some.inj h
      exact ⟨[], _, rfl, (by repeat (first | exact trivial | exact rfl | (refine And.intro ?_ ?_))), trivial, rfl, rfl, rfl, rfl, rfl⟩
end Go.Proofs.Ytoceeiamcfdnlaa
