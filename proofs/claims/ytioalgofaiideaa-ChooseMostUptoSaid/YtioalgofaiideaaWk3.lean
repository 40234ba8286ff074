/- Walks after the mirrors. Printed by mir.py. -/
import Derived.Test.YtioalgofaiideaaWk2
namespace Go.Proofs.Ytioalgofaiideaa
open Go.RowKit
set_option linter.unusedVariables false
/- qclaw9.small -/
set_option maxRecDepth 100000 in
set_option maxHeartbeats 1000000 in
theorem qclaw9_small_ok (N : Nat) (a0 : (List Tl)) (r : Bool) (h : qclaw9_small N a0 = some r) : Spec Try.prog 38 [] [.sl 4 (List.map eTl a0)] (.bool r) [] [] := by
  refine Spec.of tabOk Try.func38 rfl Try.ntmps38 (by kernel_rfl) rfl rfl rfl fun Γ hn => ?_
  unfold qclaw9_small at h
  refine COk.seqQ fun Q427 qn427 qx427 qr427 => ?_
  refine gor hn ?_
  refine qn427 _ _ ?_
  refine COk.seqQ fun Q428 qn428 qx428 qr428 => ?_
  refine COk.seqQ fun Q429 qn429 qx429 qr429 => ?_
  refine gor hn ?_
  refine lenM (fun hl1 => ?_)
  refine qn429 _ _ ?_
  obtain ⟨o3, h4, h⟩ := bindM h
  refine COk.joinR (ι := { s : Unit // o3 = Ctl.next s }) (fun s => []) (fun s => []) (fun Q708 qn708 qx708 qr708 => ?_) (by intro s; rw [hn]; rfl) ?_
  · refine COk.blkQ fun Q709 qn709 qe709 qx709 qr709 => ?_
    refine COk.loopQ (ι := { q : ((List Tl) × Nat) // q.1 = a0.drop q.2 ∧ qclaw9_small_l1 N q.1 q.2 = some o3 }) (fun q => [(7, .sl 4 (List.map eTl a0)), (8, .int (a0.length : Int)), (9, .int (q.1.2 : Int))]) (fun q => []) (fun q => q.1.1.length) ⟨(a0, 0), rfl, h4⟩ [] ⟨⟨(by repeat (first | exact trivial | exact rfl | (refine And.intro ?_ ?_))), rfl, rfl, trivial⟩, trivial, rfl, rfl⟩ (by intro q; rw [hn]; rfl) ?_
    rintro ⟨⟨rest_, k2⟩, hd6, h4⟩ Q710 qn710 qx710 qr710
    replace hd6 : rest_ = a0.drop k2 := hd6
    rcases rest_ with _ | ⟨x8, rest5⟩
    · have hlt10 := restNil hd6
      replace h4 := (qclaw9_small_l1.eq_1 _ _).symm.trans h4
      refine COk.seqQ fun Q711 qn711 qx711 qr711 => ?_
      refine gor hn ?_
      refine qn711 _ _ ?_
      refine COk.seqQ fun Q712 qn712 qx712 qr712 => ?_
      refine goc hn ?_
      refine bselF hlt10 ?_
      refine goe hn ?_
      refine qx712 _ _ _ ?_
      refine qx710 _ _ _ ?_
      refine qe709 _ _ ?_
      refine qn708 _ _ ?_
      obtain rfl := Option.some.inj h4
      refine EOk.done ?_
      exact ⟨⟨_, rfl⟩, [], trivial, ⟨trivial, trivial, rfl, rfl⟩⟩
    · obtain ⟨hx9, hd2, hlt10⟩ := restCons hd6
      replace h4 := (qclaw9_small_l1.eq_2 _ _ _ _).symm.trans h4
      refine COk.seqQ fun Q713 qn713 qx713 qr713 => ?_
      refine gor hn ?_
      refine qn713 _ _ ?_
      refine COk.seqQ fun Q714 qn714 qx714 qr714 => ?_
      refine goc hn ?_
      refine bselT hlt10 ?_
      refine gok hn ?_
      refine qn714 _ _ ?_
      refine COk.seqQ fun Q715 qn715 qx715 qr715 => ?_
      refine COk.blkQ fun Q784 qn784 qe784 qx784 qr784 => ?_
      refine COk.seqQ fun Q785 qn785 qx785 qr785 => ?_
      refine gor hn ?_
      refine idxK hx9 ?_
      refine qn785 _ _ ?_
      refine COk.seqQ fun Q786 qn786 qx786 qr786 => ?_
      refine gor hn ?_
      refine lenM (fun hl11 => ?_)
      refine qn786 _ _ ?_
      obtain ⟨o13, h14, h4⟩ := bindM h4
      refine COk.joinR (ι := { s : Unit // o13 = Ctl.next s }) (fun s => [(7, .sl 4 (List.map eTl a0)), (8, .int (a0.length : Int)), (9, .int (k2 : Int))]) (fun s => []) (fun Q832 qn832 qx832 qr832 => ?_) (by intro s; rw [hn]; rfl) ?_
      · refine COk.blkQ fun Q833 qn833 qe833 qx833 qr833 => ?_
        refine COk.loopQ (ι := { q : ((List Ln) × Nat) // q.1 = x8.classes.drop q.2 ∧ qclaw9_small_l2 N q.1 q.2 = some o13 }) (fun q => [(7, .sl 4 (List.map eTl a0)), (8, .int (a0.length : Int)), (9, .int (k2 : Int)), (14, .sl 2 (List.map eLn x8.classes)), (15, .int (x8.classes.length : Int)), (16, .int (q.1.2 : Int))]) (fun q => []) (fun q => q.1.1.length) ⟨(x8.classes, 0), rfl, h14⟩ [] ⟨⟨(by repeat (first | exact trivial | exact rfl | (refine And.intro ?_ ?_))), rfl, rfl, (by repeat (first | exact trivial | exact rfl | (refine And.intro ?_ ?_))), rfl, rfl, trivial⟩, trivial, rfl, rfl⟩ (by intro q; rw [hn]; rfl) ?_
        rintro ⟨⟨rest_, k12⟩, hd16, h14⟩ Q834 qn834 qx834 qr834
        replace hd16 : rest_ = x8.classes.drop k12 := hd16
        rcases rest_ with _ | ⟨x18, rest15⟩
        · have hlt20 := restNil hd16
          replace h14 := (qclaw9_small_l2.eq_1 _ _).symm.trans h14
          refine COk.seqQ fun Q835 qn835 qx835 qr835 => ?_
          refine gor hn ?_
          refine qn835 _ _ ?_
          refine COk.seqQ fun Q836 qn836 qx836 qr836 => ?_
          refine goc hn ?_
          refine bselF hlt20 ?_
          refine goe hn ?_
          refine qx836 _ _ _ ?_
          refine qx834 _ _ _ ?_
          refine qe833 _ _ ?_
          refine qn832 _ _ ?_
          obtain rfl := Option.some.inj h14
          refine EOk.done ?_
          exact ⟨⟨_, rfl⟩, [], trivial, ⟨⟨(by repeat (first | exact trivial | exact rfl | (refine And.intro ?_ ?_))), rfl, rfl, trivial⟩, trivial, rfl, rfl⟩⟩
        · obtain ⟨hx19, hd2, hlt20⟩ := restCons hd16
          replace h14 := (qclaw9_small_l2.eq_2 _ _ _ _).symm.trans h14
          refine COk.seqQ fun Q837 qn837 qx837 qr837 => ?_
          refine gor hn ?_
          refine qn837 _ _ ?_
          refine COk.seqQ fun Q838 qn838 qx838 qr838 => ?_
          refine goc hn ?_
          refine bselT hlt20 ?_
          refine gok hn ?_
          refine qn838 _ _ ?_
          refine COk.seqQ fun Q839 qn839 qx839 qr839 => ?_
          refine COk.blkQ fun Q846 qn846 qe846 qx846 qr846 => ?_
          refine COk.seqQ fun Q847 qn847 qx847 qr847 => ?_
          refine gor hn ?_
          refine idxK hx19 ?_
          refine qn847 _ _ ?_
          refine COk.seqQ fun Q848 qn848 qx848 qr848 => ?_
          obtain ⟨o23, h22, h14⟩ := bindM h14
          refine COk.joinR (ι := { s : Bool // o23 = s }) (fun s => [(7, .sl 4 (List.map eTl a0)), (8, .int (a0.length : Int)), (9, .int (k2 : Int)), (14, .sl 2 (List.map eLn x8.classes)), (15, .int (x8.classes.length : Int)), (16, .int (k12 : Int)), (27, .bool s.1)]) (fun s => []) (fun Q849 qn849 qx849 qr849 => ?_) (by intro s; rw [hn]; rfl) ?_
          · refine gor hn ?_
            refine bselM h22 (fun hb24 h22 => ?_) (fun hb24 h22 => ?_)
            · refine bselT hb24 ?_
              refine bselT hb24 ?_
              refine bselT hb24 ?_
              refine qn849 _ _ ?_
              obtain rfl := Option.some.inj h22
              refine EOk.done ?_
              exact ⟨⟨_, rfl⟩, [], trivial, ⟨⟨(by repeat (first | exact trivial | exact rfl | (refine And.intro ?_ ?_))), rfl, rfl, (by repeat (first | exact trivial | exact rfl | (refine And.intro ?_ ?_))), rfl, rfl, rfl, trivial⟩, trivial, rfl, rfl⟩⟩
            · refine bselF hb24 ?_
              refine bselF hb24 ?_
              refine bselF hb24 ?_
              refine qn849 _ _ ?_
              obtain rfl := Option.some.inj h22
              refine EOk.done ?_
              exact ⟨⟨_, rfl⟩, [], trivial, ⟨⟨(by repeat (first | exact trivial | exact rfl | (refine And.intro ?_ ?_))), rfl, rfl, (by repeat (first | exact trivial | exact rfl | (refine And.intro ?_ ?_))), rfl, rfl, rfl, trivial⟩, trivial, rfl, rfl⟩⟩
          rintro ⟨v21, hv_⟩
          replace hv_ := hv_.symm
          subst hv_
          refine qn848 _ _ ?_
          refine goc hn ?_
          refine bselM h14 (fun hb25 h14 => ?_) (fun hb25 h14 => ?_)
          · refine COk.seqQ fun Q851 qn851 qx851 qr851 => ?_
            refine gor hn ?_
            refine qn851 _ _ ?_
            refine got hn ?_
            refine qr846 _ _ ?_
            refine qr839 _ _ ?_
            refine qr834 _ _ ?_
            refine qr833 _ _ ?_
            refine qr832 _ _ ?_
            refine qr784 _ _ ?_
            refine qr715 _ _ ?_
            refine qr710 _ _ ?_
            refine qr709 _ _ ?_
            refine qr708 _ _ ?_
            refine qr428 _ _ ?_
            obtain rfl := Option.some.inj h14
            obtain rfl := Option.some.inj h4
            obtain rfl := Option.some.inj h
            exact ⟨[], _, rfl, (by repeat (first | exact trivial | exact rfl | (refine And.intro ?_ ?_))), trivial, rfl, rfl, rfl, rfl, rfl⟩
          · refine gok hn ?_
            refine qn846 _ _ ?_
            refine qn839 _ _ ?_
            refine gor hn ?_
            refine Or.inl (And.intro (inrK hx19 hl11) ?_)
            refine qn834 _ _ ?_
            refine EOk.done ?_
            exact ⟨⟨(rest15, k12 + 1), hd2, h14⟩, [], by show rest15.length < rest15.length + 1; omega, ⟨⟨(by repeat (first | exact trivial | exact rfl | (refine And.intro ?_ ?_))), rfl, rfl, (by repeat (first | exact trivial | exact rfl | (refine And.intro ?_ ?_))), rfl, rfl, trivial⟩, trivial, rfl, rfl⟩⟩
      rintro ⟨⟨⟩, rfl⟩
      refine qn784 _ _ ?_
      refine qn715 _ _ ?_
      refine gor hn ?_
      refine Or.inl (And.intro (inrK hx9 hl1) ?_)
      refine qn710 _ _ ?_
      refine EOk.done ?_
      exact ⟨⟨(rest5, k2 + 1), hd2, h4⟩, [], by show rest5.length < rest5.length + 1; omega, ⟨⟨(by repeat (first | exact trivial | exact rfl | (refine And.intro ?_ ?_))), rfl, rfl, trivial⟩, trivial, rfl, rfl⟩⟩
  rintro ⟨⟨⟩, rfl⟩
  refine qn428 _ _ ?_
  refine COk.seqQ fun Q852 qn852 qx852 qr852 => ?_
  refine gor hn ?_
  refine qn852 _ _ ?_
  refine got hn ?_
  obtain rfl := Option.some.inj h
  exact ⟨[], _, rfl, (by repeat (first | exact trivial | exact rfl | (refine And.intro ?_ ?_))), trivial, rfl, rfl, rfl, rfl, rfl⟩

/- slices.IndexFunc[[]api.Instr,api.Instr] -/
set_option maxRecDepth 100000 in
set_option maxHeartbeats 1000000 in
theorem slices_IndexFunc_api_Instr_api_Instr_ok (N : Nat) (a0 : (List Ins)) (g1 : Ins → Option Bool) {K1 : Nat} (hg1 : ∀ x0_ y_, g1 x0_ = some y_ → Spec Try.prog K1 [] [.agg (eIns x0_)] (.bool y_) [] []) (r : Int) (h : slices_IndexFunc_api_Instr_api_Instr N a0 g1 = some r) : Spec Try.prog 76 [] [.sl 5 (List.map eIns a0), .fn K1 []] (.int r) [] [] := by
  refine Spec.of tabOk Try.func76 rfl Try.ntmps76 (by kernel_rfl) rfl rfl rfl fun Γ hn => ?_
  unfold slices_IndexFunc_api_Instr_api_Instr at h
  refine COk.seqQ fun Q49 qn49 qx49 qr49 => ?_
  refine gor hn ?_
  refine qn49 _ _ ?_
  refine COk.seqQ fun Q50 qn50 qx50 qr50 => ?_
  refine COk.seqQ fun Q51 qn51 qx51 qr51 => ?_
  refine gor hn ?_
  refine lenM (fun hl1 => ?_)
  refine qn51 _ _ ?_
  obtain ⟨o3, h4, h⟩ := bindM h
  refine COk.joinR (ι := { s : Unit // o3 = Ctl.next s }) (fun s => []) (fun s => []) (fun Q78 qn78 qx78 qr78 => ?_) (by intro s; rw [hn]; rfl) ?_
  · refine COk.blkQ fun Q79 qn79 qe79 qx79 qr79 => ?_
    refine COk.loopQ (ι := { q : ((List Ins) × Nat) // q.1 = a0.drop q.2 ∧ slices_IndexFunc_api_Instr_api_Instr_l1 N g1 q.1 q.2 = some o3 }) (fun q => [(0, .sl 5 (List.map eIns a0)), (1, .fn K1 []), (7, .int (a0.length : Int)), (8, .int (q.1.2 : Int))]) (fun q => []) (fun q => q.1.1.length) ⟨(a0, 0), rfl, h4⟩ [] ⟨⟨(by repeat (first | exact trivial | exact rfl | (refine And.intro ?_ ?_))), rfl, rfl, rfl, trivial⟩, trivial, rfl, rfl⟩ (by intro q; rw [hn]; rfl) ?_
    rintro ⟨⟨rest_, k2⟩, hd6, h4⟩ Q80 qn80 qx80 qr80
    replace hd6 : rest_ = a0.drop k2 := hd6
    rcases rest_ with _ | ⟨x8, rest5⟩
    · have hlt10 := restNil hd6
      replace h4 := (slices_IndexFunc_api_Instr_api_Instr_l1.eq_1 _ _ _).symm.trans h4
      refine COk.seqQ fun Q81 qn81 qx81 qr81 => ?_
      refine gor hn ?_
      refine qn81 _ _ ?_
      refine COk.seqQ fun Q82 qn82 qx82 qr82 => ?_
      refine goc hn ?_
      refine bselF hlt10 ?_
      refine goe hn ?_
      refine qx82 _ _ _ ?_
      refine qx80 _ _ _ ?_
      refine qe79 _ _ ?_
      refine qn78 _ _ ?_
      obtain rfl := Option.some.inj h4
      refine EOk.done ?_
      exact ⟨⟨_, rfl⟩, [], trivial, ⟨trivial, trivial, rfl, rfl⟩⟩
    · obtain ⟨hx9, hd2, hlt10⟩ := restCons hd6
      replace h4 := (slices_IndexFunc_api_Instr_api_Instr_l1.eq_2 _ _ _ _ _).symm.trans h4
      refine COk.seqQ fun Q83 qn83 qx83 qr83 => ?_
      refine gor hn ?_
      refine qn83 _ _ ?_
      refine COk.seqQ fun Q84 qn84 qx84 qr84 => ?_
      refine goc hn ?_
      refine bselT hlt10 ?_
      refine gok hn ?_
      refine qn84 _ _ ?_
      refine COk.seqQ fun Q85 qn85 qx85 qr85 => ?_
      refine COk.blkQ fun Q91 qn91 qe91 qx91 qr91 => ?_
      refine COk.seqQ fun Q92 qn92 qx92 qr92 => ?_
      refine gor hn ?_
      refine qn92 _ _ ?_
      refine COk.seqQ fun Q93 qn93 qx93 qr93 => ?_
      refine gor hn ?_
      refine idxK hx9 ?_
      obtain ⟨r11, hr12, h4⟩ := bindM h4
      show CallOk Try.prog _ _ _ _
      refine CallOk.as (hg1 _ _ hr12) (by repeat (first | exact trivial | exact rfl | (refine And.intro ?_ ?_))) trivial rfl ?_
      refine qn93 _ _ ?_
      refine goc hn ?_
      refine bselM h4 (fun hb13 h4 => ?_) (fun hb13 h4 => ?_)
      · refine COk.seqQ fun Q95 qn95 qx95 qr95 => ?_
        refine gor hn ?_
        refine qn95 _ _ ?_
        refine got hn ?_
        refine qr91 _ _ ?_
        refine qr85 _ _ ?_
        refine qr80 _ _ ?_
        refine qr79 _ _ ?_
        refine qr78 _ _ ?_
        refine qr50 _ _ ?_
        obtain rfl := Option.some.inj h4
        obtain rfl := Option.some.inj h
        exact ⟨[], _, rfl, (by repeat (first | exact trivial | exact rfl | (refine And.intro ?_ ?_))), trivial, rfl, rfl, rfl, rfl, rfl⟩
      · refine gok hn ?_
        refine qn91 _ _ ?_
        refine qn85 _ _ ?_
        refine gor hn ?_
        refine Or.inl (And.intro (inrK hx9 hl1) ?_)
        refine qn80 _ _ ?_
        refine EOk.done ?_
        exact ⟨⟨(rest5, k2 + 1), hd2, h4⟩, [], by show rest5.length < rest5.length + 1; omega, ⟨⟨(by repeat (first | exact trivial | exact rfl | (refine And.intro ?_ ?_))), rfl, rfl, rfl, trivial⟩, trivial, rfl, rfl⟩⟩
  rintro ⟨⟨⟩, rfl⟩
  refine qn50 _ _ ?_
  refine COk.seqQ fun Q96 qn96 qx96 qr96 => ?_
  refine gor hn ?_
  refine qn96 _ _ ?_
  refine got hn ?_
  obtain rfl := Option.some.inj h
  exact ⟨[], _, rfl, (by repeat (first | exact trivial | exact rfl | (refine And.intro ?_ ?_))), trivial, rfl, rfl, rfl, rfl, rfl⟩

/- slices.ContainsFunc[[]api.Instr,api.Instr] -/
set_option maxRecDepth 100000 in
set_option maxHeartbeats 1000000 in
theorem slices_ContainsFunc_api_Instr_api_Instr_ok (N : Nat) (a0 : (List Ins)) (g1 : Ins → Option Bool) {K1 : Nat} (hg1 : ∀ x0_ y_, g1 x0_ = some y_ → Spec Try.prog K1 [] [.agg (eIns x0_)] (.bool y_) [] []) (r : Bool) (h : slices_ContainsFunc_api_Instr_api_Instr N a0 g1 = some r) : Spec Try.prog 66 [] [.sl 5 (List.map eIns a0), .fn K1 []] (.bool r) [] [] := by
  refine Spec.of tabOk Try.func66 rfl Try.ntmps66 (by kernel_rfl) rfl rfl rfl fun Γ hn => ?_
  unfold slices_ContainsFunc_api_Instr_api_Instr at h
  refine COk.seqQ fun Q3 qn3 qx3 qr3 => ?_
  refine gor hn ?_
  refine qn3 _ _ ?_
  refine COk.seqQ fun Q4 qn4 qx4 qr4 => ?_
  refine gor hn ?_
  obtain ⟨r1, hr2, h⟩ := bindM h
  show CallOk Try.prog _ _ _ _
  refine CallOk.as (slices_IndexFunc_api_Instr_api_Instr_ok N a0 g1 hg1 r1 hr2) (by repeat (first | exact trivial | exact rfl | (refine And.intro ?_ ?_))) trivial rfl ?_
  refine qn4 _ _ ?_
  refine got hn ?_
  obtain rfl := Option.some.inj h
  exact ⟨[], _, rfl, (by repeat (first | exact trivial | exact rfl | (refine And.intro ?_ ?_))), trivial, rfl, rfl, rfl, rfl, rfl⟩

/- choose.Leaf$1 -/
set_option maxRecDepth 100000 in
set_option maxHeartbeats 1000000 in
theorem choose_Leaf_1_ok (N : Nat) (a0 : Ins) (r : Bool) (h : choose_Leaf_1 N a0 = some r) : Spec Try.prog 67 [] [.agg (eIns a0)] (.bool r) [] [] := by
  refine Spec.of tabOk Try.func67 rfl Try.ntmps67 (by kernel_rfl) rfl rfl rfl fun Γ hn => ?_
  unfold choose_Leaf_1 at h
  refine COk.seqQ fun Q4 qn4 qx4 qr4 => ?_
  refine gor hn ?_
  refine qn4 _ _ ?_
  refine COk.seqQ fun Q5 qn5 qx5 qr5 => ?_
  obtain ⟨o3, h2, h⟩ := bindM h
  refine COk.joinR (ι := { s : Bool // o3 = s }) (fun s => [(2, .bool s.1)]) (fun s => []) (fun Q6 qn6 qx6 qr6 => ?_) (by intro s; rw [hn]; rfl) ?_
  · refine gor hn ?_
    refine bselM h2 (fun hb4 h2 => ?_) (fun hb4 h2 => ?_)
    · refine bselT hb4 ?_
      refine bselT hb4 ?_
      refine bselT hb4 ?_
      refine qn6 _ _ ?_
      obtain rfl := Option.some.inj h2
      refine EOk.done ?_
      exact ⟨⟨_, rfl⟩, [], trivial, ⟨⟨rfl, trivial⟩, trivial, rfl, rfl⟩⟩
    · refine bselF hb4 ?_
      refine bselF hb4 ?_
      refine bselF hb4 ?_
      refine qn6 _ _ ?_
      obtain rfl := Option.some.inj h2
      refine EOk.done ?_
      exact ⟨⟨_, rfl⟩, [], trivial, ⟨⟨rfl, trivial⟩, trivial, rfl, rfl⟩⟩
  rintro ⟨v1, hv_⟩
  replace hv_ := hv_.symm
  subst hv_
  refine qn5 _ _ ?_
  refine got hn ?_
  obtain rfl := Option.some.inj h
  exact ⟨[], _, rfl, (by repeat (first | exact trivial | exact rfl | (refine And.intro ?_ ?_))), trivial, rfl, rfl, rfl, rfl, rfl⟩

/- choose.Leaf -/
set_option maxRecDepth 100000 in
set_option maxHeartbeats 1000000 in
theorem choose_Leaf_ok (N : Nat) (a0 : Me) (r : Bool) (h : choose_Leaf N a0 = some r) : Spec Try.prog 39 [] [.agg (eMe a0)] (.bool r) [] [] := by
  refine Spec.of tabOk Try.func39 rfl Try.ntmps39 (by kernel_rfl) rfl rfl rfl fun Γ hn => ?_
  unfold choose_Leaf at h
  refine COk.seqQ fun Q4 qn4 qx4 qr4 => ?_
  refine gor hn ?_
  refine qn4 _ _ ?_
  refine COk.seqQ fun Q5 qn5 qx5 qr5 => ?_
  obtain ⟨o3, h2, h⟩ := bindM h
  refine COk.joinR (ι := { s : Bool // o3 = s }) (fun s => [(2, .bool s.1)]) (fun s => []) (fun Q6 qn6 qx6 qr6 => ?_) (by intro s; rw [hn]; rfl) ?_
  · refine gor hn ?_
    refine bselM h2 (fun hb4 h2 => ?_) (fun hb4 h2 => ?_)
    · refine bselT hb4 ?_
      refine bselT hb4 ?_
      obtain ⟨r5, hr6, h2⟩ := bindM h2
      show CallOk Try.prog _ _ _ _
      refine CallOk.as (slices_ContainsFunc_api_Instr_api_Instr_ok N a0.code (fun x0_ => choose_Leaf_1 N x0_) (fun x0_ y_ hy_ => choose_Leaf_1_ok N x0_ y_ hy_) r5 hr6) (by repeat (first | exact trivial | exact rfl | (refine And.intro ?_ ?_))) trivial rfl ?_
      refine bselT hb4 ?_
      refine bselT hb4 ?_
      refine qn6 _ _ ?_
      obtain rfl := Option.some.inj h2
      refine EOk.done ?_
      exact ⟨⟨_, rfl⟩, [], trivial, ⟨⟨rfl, trivial⟩, trivial, rfl, rfl⟩⟩
    · refine bselF hb4 ?_
      refine bselF hb4 ?_
      refine bselF hb4 ?_
      refine bselF hb4 ?_
      refine qn6 _ _ ?_
      obtain rfl := Option.some.inj h2
      refine EOk.done ?_
      exact ⟨⟨_, rfl⟩, [], trivial, ⟨⟨rfl, trivial⟩, trivial, rfl, rfl⟩⟩
  rintro ⟨v1, hv_⟩
  replace hv_ := hv_.symm
  subst hv_
  refine qn5 _ _ ?_
  refine got hn ?_
  obtain rfl := Option.some.inj h
  exact ⟨[], _, rfl, (by repeat (first | exact trivial | exact rfl | (refine And.intro ?_ ?_))), trivial, rfl, rfl, rfl, rfl, rfl⟩

/- slices.BinarySearchFunc[[]api.Method,api.Method,string] -/
set_option maxRecDepth 100000 in
set_option maxHeartbeats 1000000 in
theorem slices_BinarySearchFunc_api_Method_api_Method_string_ok (N : Nat) (a0 : (List Me)) (a1 : ByteArray) (g2 : Me → ByteArray → Option Int) {K2 : Nat} (hg2 : ∀ x0_ x1_ y_, g2 x0_ x1_ = some y_ → Spec Try.prog K2 [] [.agg (eMe x0_), .str x1_] (.int y_) [] []) (r : (Int × Bool)) (h : slices_BinarySearchFunc_api_Method_api_Method_string N a0 a1 g2 = some r) : Spec Try.prog 77 [] [.sl 5 (List.map eMe a0), .str a1, .fn K2 []] (.tup [.int r.1, .bool r.2]) [] [] := by
  refine Spec.of tabOk Try.func77 rfl Try.ntmps77 (by kernel_rfl) rfl rfl rfl fun Γ hn => ?_
  unfold slices_BinarySearchFunc_api_Method_api_Method_string at h
  refine COk.seqQ fun Q50 qn50 qx50 qr50 => ?_
  refine gor hn ?_
  refine qn50 _ _ ?_
  refine COk.seqQ fun Q51 qn51 qx51 qr51 => ?_
  refine gor hn ?_
  refine lenM (fun hl1 => ?_)
  refine qn51 _ _ ?_
  refine COk.seqQ fun Q52 qn52 qx52 qr52 => ?_
  refine gor hn ?_
  refine qn52 _ _ ?_
  refine COk.seqQ fun Q53 qn53 qx53 qr53 => ?_
  obtain ⟨o8, h9, h⟩ := bindM h
  refine COk.joinR (ι := { s : Int // o8 = s }) (fun s => [(0, .sl 5 (List.map eMe a0)), (1, .str a1), (2, .fn K2 []), (8, .int (a0.length : Int)), (9, .int s.1)]) (fun s => []) (fun Q84 qn84 qx84 qr84 => ?_) (by intro s; rw [hn]; rfl) ?_
  · refine COk.blkQ fun Q85 qn85 qe85 qx85 qr85 => ?_
    refine COk.loopQ (ι := { q : (Nat × Int × Int) // slices_BinarySearchFunc_api_Method_api_Method_string_l1 N a0 a1 g2 q.1 q.2.1 q.2.2 = some o8 }) (fun q => [(0, .sl 5 (List.map eMe a0)), (1, .str a1), (2, .fn K2 []), (8, .int (a0.length : Int)), (9, .int q.1.2.1), (10, .int q.1.2.2)]) (fun q => []) (fun q => q.1.1) ⟨(N, (0 : Int), (a0.length : Int)), h9⟩ [] ⟨⟨(by repeat (first | exact trivial | exact rfl | (refine And.intro ?_ ?_))), rfl, rfl, rfl, rfl, rfl, trivial⟩, trivial, rfl, rfl⟩ (by intro q; rw [hn]; rfl) ?_
    rintro ⟨⟨n_, v3, v4⟩, h9⟩ Q86 qn86 qx86 qr86
    rcases n_ with _ | n12
    · rw [slices_BinarySearchFunc_api_Method_api_Method_string_l1.eq_1] at h9
      cases h9
    · replace h9 := (slices_BinarySearchFunc_api_Method_api_Method_string_l1.eq_2 _ _ _ _ _ _ _).symm.trans h9
      refine COk.seqQ fun Q87 qn87 qx87 qr87 => ?_
      refine COk.seqQ fun Q88 qn88 qx88 qr88 => ?_
      refine gor hn ?_
      refine qn88 _ _ ?_
      refine goc hn ?_
      refine bselM h9 (fun hb13 h9 => ?_) (fun hb13 h9 => ?_)
      · refine gok hn ?_
        refine qn87 _ _ ?_
        refine COk.blkQ fun Q93 qn93 qe93 qx93 qr93 => ?_
        refine COk.seqQ fun Q94 qn94 qx94 qr94 => ?_
        refine gor hn ?_
        refine Or.inr ?_
        obtain ⟨hg14, h9⟩ := guardM h9
        refine decM hg14 ?_
        refine And.intro rfl ?_
        refine And.intro rfl ?_
        obtain ⟨hg15, h9⟩ := guardM h9
        refine decM hg15 ?_
        refine qn94 _ _ ?_
        refine COk.seqQ fun Q95 qn95 qx95 qr95 => ?_
        refine gor hn ?_
        obtain ⟨x16, hx17, h9⟩ := bindM h9
        refine idxM hx17 ?_
        obtain ⟨r18, hr19, h9⟩ := bindM h9
        show CallOk Try.prog _ _ _ _
        refine CallOk.as (hg2 _ _ _ hr19) (by repeat (first | exact trivial | exact rfl | (refine And.intro ?_ ?_))) trivial rfl ?_
        refine qn95 _ _ ?_
        obtain ⟨o23, h22, h9⟩ := bindM h9
        refine COk.joinR (ι := { s : (Int × Int) // o23 = s }) (fun s => [(0, .sl 5 (List.map eMe a0)), (1, .str a1), (2, .fn K2 []), (8, .int (a0.length : Int)), (9, .int s.1.1), (10, .int s.1.2)]) (fun s => []) (fun Q96 qn96 qx96 qr96 => ?_) (by intro s; rw [hn]; rfl) ?_
        · refine goc hn ?_
          refine bselM h22 (fun hb24 h22 => ?_) (fun hb24 h22 => ?_)
          · refine COk.sub (ts2 := [(0, .sl 5 (List.map eMe a0)), (1, .str a1), (2, .fn K2 []), (8, .int (a0.length : Int)), (10, .int v4), (11, .int ((wr (v3 + v4)) / 2))]) (os2 := []) [] ⟨⟨(by repeat (first | exact trivial | exact rfl | (refine And.intro ?_ ?_))), rfl, rfl, rfl, rfl, rfl, trivial⟩, trivial, rfl, rfl⟩ (by rw [hn]; rfl) ?_
            refine gor hn ?_
            refine Or.inr ?_
            refine qn96 _ _ ?_
            obtain rfl := Option.some.inj h22
            refine EOk.done ?_
            exact ⟨⟨_, rfl⟩, [], trivial, ⟨⟨(by repeat (first | exact trivial | exact rfl | (refine And.intro ?_ ?_))), rfl, rfl, rfl, rfl, rfl, trivial⟩, trivial, rfl, rfl⟩⟩
          · refine COk.sub (ts2 := [(0, .sl 5 (List.map eMe a0)), (1, .str a1), (2, .fn K2 []), (8, .int (a0.length : Int)), (9, .int v3), (11, .int ((wr (v3 + v4)) / 2))]) (os2 := []) [] ⟨⟨(by repeat (first | exact trivial | exact rfl | (refine And.intro ?_ ?_))), rfl, rfl, rfl, rfl, rfl, trivial⟩, trivial, rfl, rfl⟩ (by rw [hn]; rfl) ?_
            refine gor hn ?_
            refine qn96 _ _ ?_
            obtain rfl := Option.some.inj h22
            refine EOk.done ?_
            exact ⟨⟨_, rfl⟩, [], trivial, ⟨⟨(by repeat (first | exact trivial | exact rfl | (refine And.intro ?_ ?_))), rfl, rfl, rfl, rfl, rfl, trivial⟩, trivial, rfl, rfl⟩⟩
        rintro ⟨⟨v20, v21⟩, rfl⟩
        refine qn93 _ _ ?_
        refine qn86 _ _ ?_
        refine EOk.done ?_
        exact ⟨⟨(n12, v20, v21), h9⟩, [], by show n12 < n12 + 1; omega, ⟨⟨(by repeat (first | exact trivial | exact rfl | (refine And.intro ?_ ?_))), rfl, rfl, rfl, rfl, rfl, trivial⟩, trivial, rfl, rfl⟩⟩
      · refine goe hn ?_
        refine qx87 _ _ _ ?_
        refine qx86 _ _ _ ?_
        refine qe85 _ _ ?_
        refine qn84 _ _ ?_
        obtain rfl := Option.some.inj h9
        refine EOk.done ?_
        exact ⟨⟨_, rfl⟩, [], trivial, ⟨⟨(by repeat (first | exact trivial | exact rfl | (refine And.intro ?_ ?_))), rfl, rfl, rfl, rfl, trivial⟩, trivial, rfl, rfl⟩⟩
  rintro ⟨v7, hv_⟩
  replace hv_ := hv_.symm
  subst hv_
  refine qn53 _ _ ?_
  refine COk.seqQ fun Q97 qn97 qx97 qr97 => ?_
  obtain ⟨o27, h26, h⟩ := bindM h
  refine COk.joinR (ι := { s : Bool // o27 = s }) (fun s => [(6, .int v7), (7, .bool s.1)]) (fun s => []) (fun Q98 qn98 qx98 qr98 => ?_) (by intro s; rw [hn]; rfl) ?_
  · refine gor hn ?_
    refine bselM h26 (fun hb28 h26 => ?_) (fun hb28 h26 => ?_)
    · refine bselT hb28 ?_
      refine bselT hb28 ?_
      refine bselT hb28 ?_
      obtain ⟨x29, hx30, h26⟩ := bindM h26
      refine idxM hx30 ?_
      refine bselT hb28 ?_
      refine bselT hb28 ?_
      refine bselT hb28 ?_
      obtain ⟨r31, hr32, h26⟩ := bindM h26
      show CallOk Try.prog _ _ _ _
      refine CallOk.as (hg2 _ _ _ hr32) (by repeat (first | exact trivial | exact rfl | (refine And.intro ?_ ?_))) trivial rfl ?_
      refine bselT hb28 ?_
      refine bselT hb28 ?_
      refine qn98 _ _ ?_
      obtain rfl := Option.some.inj h26
      refine EOk.done ?_
      exact ⟨⟨_, rfl⟩, [], trivial, ⟨⟨rfl, rfl, trivial⟩, trivial, rfl, rfl⟩⟩
    · refine bselF hb28 ?_
      refine bselF hb28 ?_
      refine bselF hb28 ?_
      refine bselF hb28 ?_
      refine bselF hb28 ?_
      refine bselF hb28 ?_
      refine bselF hb28 ?_
      refine bselF hb28 ?_
      refine qn98 _ _ ?_
      obtain rfl := Option.some.inj h26
      refine EOk.done ?_
      exact ⟨⟨_, rfl⟩, [], trivial, ⟨⟨rfl, rfl, trivial⟩, trivial, rfl, rfl⟩⟩
  rintro ⟨v25, hv_⟩
  replace hv_ := hv_.symm
  subst hv_
  refine qn97 _ _ ?_
  refine got hn ?_
  obtain rfl := Option.some.inj h
  exact ⟨[], _, rfl, (by repeat (first | exact trivial | exact rfl | (refine And.intro ?_ ?_))), trivial, rfl, rfl, rfl, rfl, rfl⟩

/- cmp.isNaN[string] -/
set_option maxRecDepth 100000 in
set_option maxHeartbeats 1000000 in
theorem cmp_isNaN_string_ok (N : Nat) (a0 : ByteArray) (r : Bool) (h : cmp_isNaN_string N a0 = some r) : Spec Try.prog 82 [] [.str a0] (.bool r) [] [] := by
  refine Spec.of tabOk Try.func82 rfl Try.ntmps82 (by kernel_rfl) rfl rfl rfl fun Γ hn => ?_
  unfold cmp_isNaN_string at h
  refine COk.seqQ fun Q3 qn3 qx3 qr3 => ?_
  refine gor hn ?_
  refine qn3 _ _ ?_
  refine COk.seqQ fun Q4 qn4 qx4 qr4 => ?_
  refine gor hn ?_
  refine qn4 _ _ ?_
  refine got hn ?_
  obtain rfl := Option.some.inj h
  exact ⟨[], _, rfl, (by repeat (first | exact trivial | exact rfl | (refine And.intro ?_ ?_))), trivial, rfl, rfl, rfl, rfl, rfl⟩

/- cmp.Compare[string] -/
set_option maxRecDepth 100000 in
set_option maxHeartbeats 1000000 in
theorem cmp_Compare_string_ok (N : Nat) (a0 : ByteArray) (a1 : ByteArray) (r : Int) (h : cmp_Compare_string N a0 a1 = some r) : Spec Try.prog 81 [] [.str a0, .str a1] (.int r) [] [] := by
  refine Spec.of tabOk Try.func81 rfl Try.ntmps81 (by kernel_rfl) rfl rfl rfl fun Γ hn => ?_
  unfold cmp_Compare_string at h
  refine COk.seqQ fun Q29 qn29 qx29 qr29 => ?_
  refine gor hn ?_
  refine qn29 _ _ ?_
  refine COk.seqQ fun Q30 qn30 qx30 qr30 => ?_
  refine gor hn ?_
  obtain ⟨r1, hr2, h⟩ := bindM h
  show CallOk Try.prog _ _ _ _
  refine CallOk.as (cmp_isNaN_string_ok N a0 r1 hr2) (by repeat (first | exact trivial | exact rfl | (refine And.intro ?_ ?_))) trivial rfl ?_
  refine qn30 _ _ ?_
  refine COk.seqQ fun Q31 qn31 qx31 qr31 => ?_
  refine gor hn ?_
  obtain ⟨r3, hr4, h⟩ := bindM h
  show CallOk Try.prog _ _ _ _
  refine CallOk.as (cmp_isNaN_string_ok N a1 r3 hr4) (by repeat (first | exact trivial | exact rfl | (refine And.intro ?_ ?_))) trivial rfl ?_
  refine qn31 _ _ ?_
  refine COk.seqQ fun Q32 qn32 qx32 qr32 => ?_
  refine COk.seqQ fun Q33 qn33 qx33 qr33 => ?_
  refine gor hn ?_
  refine qn33 _ _ ?_
  refine goc hn ?_
  refine bselM h (fun hb5 h => ?_) (fun hb5 h => ?_)
  · refine COk.seqQ fun Q39 qn39 qx39 qr39 => ?_
    refine COk.seqQ fun Q40 qn40 qx40 qr40 => ?_
    refine gor hn ?_
    refine qn40 _ _ ?_
    refine goc hn ?_
    refine bselM h (fun hb6 h => ?_) (fun hb6 h => ?_)
    · refine COk.seqQ fun Q42 qn42 qx42 qr42 => ?_
      refine gor hn ?_
      refine qn42 _ _ ?_
      refine got hn ?_
      refine qr39 _ _ ?_
      refine qr32 _ _ ?_
      obtain rfl := Option.some.inj h
      exact ⟨[], _, rfl, (by repeat (first | exact trivial | exact rfl | (refine And.intro ?_ ?_))), trivial, rfl, rfl, rfl, rfl, rfl⟩
    · refine gok hn ?_
      refine qn39 _ _ ?_
      refine COk.seqQ fun Q43 qn43 qx43 qr43 => ?_
      refine gor hn ?_
      refine qn43 _ _ ?_
      refine got hn ?_
      refine qr32 _ _ ?_
      obtain rfl := Option.some.inj h
      exact ⟨[], _, rfl, (by repeat (first | exact trivial | exact rfl | (refine And.intro ?_ ?_))), trivial, rfl, rfl, rfl, rfl, rfl⟩
  · refine gok hn ?_
    refine qn32 _ _ ?_
    refine COk.seqQ fun Q44 qn44 qx44 qr44 => ?_
    refine COk.seqQ fun Q45 qn45 qx45 qr45 => ?_
    refine gor hn ?_
    refine qn45 _ _ ?_
    refine goc hn ?_
    refine bselM h (fun hb7 h => ?_) (fun hb7 h => ?_)
    · refine COk.seqQ fun Q47 qn47 qx47 qr47 => ?_
      refine gor hn ?_
      refine qn47 _ _ ?_
      refine got hn ?_
      refine qr44 _ _ ?_
      obtain rfl := Option.some.inj h
      exact ⟨[], _, rfl, (by repeat (first | exact trivial | exact rfl | (refine And.intro ?_ ?_))), trivial, rfl, rfl, rfl, rfl, rfl⟩
    · refine gok hn ?_
      refine qn44 _ _ ?_
      refine COk.seqQ fun Q48 qn48 qx48 qr48 => ?_
      refine COk.seqQ fun Q49 qn49 qx49 qr49 => ?_
      refine gor hn ?_
      refine qn49 _ _ ?_
      refine goc hn ?_
      refine bselM h (fun hb8 h => ?_) (fun hb8 h => ?_)
      · refine COk.seqQ fun Q51 qn51 qx51 qr51 => ?_
        refine gor hn ?_
        refine qn51 _ _ ?_
        refine got hn ?_
        refine qr48 _ _ ?_
        obtain rfl := Option.some.inj h
        exact ⟨[], _, rfl, (by repeat (first | exact trivial | exact rfl | (refine And.intro ?_ ?_))), trivial, rfl, rfl, rfl, rfl, rfl⟩
      · refine gok hn ?_
        refine qn48 _ _ ?_
        refine COk.seqQ fun Q52 qn52 qx52 qr52 => ?_
        refine COk.seqQ fun Q53 qn53 qx53 qr53 => ?_
        refine gor hn ?_
        refine qn53 _ _ ?_
        refine goc hn ?_
        refine bselM h (fun hb9 h => ?_) (fun hb9 h => ?_)
        · refine COk.seqQ fun Q55 qn55 qx55 qr55 => ?_
          refine COk.sub (ts2 := []) (os2 := []) [] ⟨trivial, trivial, rfl, rfl⟩ (by rw [hn]; rfl) ?_
          refine gor hn ?_
          refine qn55 _ _ ?_
          refine got hn ?_
          refine qr52 _ _ ?_
          obtain rfl := Option.some.inj h
          exact ⟨[], _, rfl, (by repeat (first | exact trivial | exact rfl | (refine And.intro ?_ ?_))), trivial, rfl, rfl, rfl, rfl, rfl⟩
        · refine gok hn ?_
          refine qn52 _ _ ?_
          refine COk.seqQ fun Q56 qn56 qx56 qr56 => ?_
          refine COk.sub (ts2 := []) (os2 := []) [] ⟨trivial, trivial, rfl, rfl⟩ (by rw [hn]; rfl) ?_
          refine gor hn ?_
          refine qn56 _ _ ?_
          refine got hn ?_
          obtain rfl := Option.some.inj h
          exact ⟨[], _, rfl, (by repeat (first | exact trivial | exact rfl | (refine And.intro ?_ ?_))), trivial, rfl, rfl, rfl, rfl, rfl⟩

/- class.order -/
set_option maxRecDepth 100000 in
set_option maxHeartbeats 1000000 in
theorem class_order_ok (N : Nat) (a0 : Me) (a1 : ByteArray) (r : Int) (h : class_order N a0 a1 = some r) : Spec Try.prog 78 [] [.agg (eMe a0), .str a1] (.int r) [] [] := by
  refine Spec.of tabOk Try.func78 rfl Try.ntmps78 (by kernel_rfl) rfl rfl rfl fun Γ hn => ?_
  unfold class_order at h
  refine COk.seqQ fun Q3 qn3 qx3 qr3 => ?_
  refine gor hn ?_
  refine qn3 _ _ ?_
  refine COk.seqQ fun Q4 qn4 qx4 qr4 => ?_
  refine gor hn ?_
  obtain ⟨r1, hr2, h⟩ := bindM h
  show CallOk Try.prog _ _ _ _
  refine CallOk.as (cmp_Compare_string_ok N a0.name a1 r1 hr2) (by repeat (first | exact trivial | exact rfl | (refine And.intro ?_ ?_))) trivial rfl ?_
  refine qn4 _ _ ?_
  refine got hn ?_
  obtain rfl := Option.some.inj h
  exact ⟨[], _, rfl, (by repeat (first | exact trivial | exact rfl | (refine And.intro ?_ ?_))), trivial, rfl, rfl, rfl, rfl, rfl⟩

/- class.Find -/
set_option maxRecDepth 100000 in
set_option maxHeartbeats 1000000 in
theorem class_Find_ok (N : Nat) (a0 : Wd) (a1 : Int) (a2 : ByteArray) (r : (Int × Int)) (h : class_Find N a0 a1 a2 = some r) : Spec Try.prog 68 [] [.agg (eWd a0), .int a1, .str a2] (.tup [.int r.1, .int r.2]) [] [] := by
  refine Spec.of tabOk Try.func68 rfl Try.ntmps68 (by kernel_rfl) rfl rfl rfl fun Γ hn => ?_
  unfold class_Find at h
  refine COk.seqQ fun Q72 qn72 qx72 qr72 => ?_
  refine gor hn ?_
  refine qn72 _ _ ?_
  refine COk.seqQ fun Q73 qn73 qx73 qr73 => ?_
  refine COk.seqQ fun Q74 qn74 qx74 qr74 => ?_
  refine gor hn ?_
  refine qn74 _ _ ?_
  obtain ⟨o6, h7, h⟩ := bindM h
  refine COk.joinR (ι := { s : Unit // o6 = Ctl.next s }) (fun s => []) (fun s => []) (fun Q123 qn123 qx123 qr123 => ?_) (by intro s; rw [hn]; rfl) ?_
  · refine COk.blkQ fun Q124 qn124 qe124 qx124 qr124 => ?_
    refine COk.loopQ (ι := { q : (Nat × Int × Int) // class_Find_l1 N a0 a2 q.1 q.2.1 q.2.2 = some o6 }) (fun q => [(1, .int q.1.2.1), (2, .str a2), (3, .ptr 3 0), (8, .int q.1.2.2)]) (fun q => [(3, .box (eWd a0) 55)]) (fun q => q.1.1) ⟨(N, a1, (0 : Int)), h7⟩ [] ⟨⟨rfl, rfl, rfl, rfl, trivial⟩, ⟨rfl, trivial⟩, rfl, rfl⟩ (by intro q; rw [hn]; rfl) ?_
    rintro ⟨⟨n_, v2, v3⟩, h7⟩ Q125 qn125 qx125 qr125
    rcases n_ with _ | n10
    · rw [class_Find_l1.eq_1] at h7
      cases h7
    · replace h7 := (class_Find_l1.eq_2 _ _ _ _ _ _).symm.trans h7
      refine COk.seqQ fun Q126 qn126 qx126 qr126 => ?_
      refine COk.seqQ fun Q127 qn127 qx127 qr127 => ?_
      obtain ⟨o13, h12, h7⟩ := bindM h7
      refine COk.joinR (ι := { s : Bool // o13 = s }) (fun s => [(1, .int v2), (2, .str a2), (3, .ptr 3 0), (8, .int v3), (26, .bool s.1)]) (fun s => [(3, .box (eWd a0) 55)]) (fun Q128 qn128 qx128 qr128 => ?_) (by intro s; rw [hn]; rfl) ?_
      · refine gor hn ?_
        refine bselM h12 (fun hb14 h12 => ?_) (fun hb14 h12 => ?_)
        · refine bselT hb14 ?_
          refine bselT hb14 ?_
          refine bselT hb14 ?_
          refine lenM (fun hl15 => ?_)
          refine bselT hb14 ?_
          refine bselT hb14 ?_
          refine bselM h12 (fun hb16 h12 => ?_) (fun hb16 h12 => ?_)
          · refine bselT hb16 ?_
            refine bselT hb16 ?_
            refine bselT hb16 ?_
            refine lenM (fun hl17 => ?_)
            refine bselT hb16 ?_
            refine bselT hb16 ?_
            refine qn128 _ _ ?_
            obtain rfl := Option.some.inj h12
            refine EOk.done ?_
            exact ⟨⟨_, rfl⟩, [], trivial, ⟨⟨rfl, rfl, rfl, rfl, rfl, trivial⟩, ⟨rfl, trivial⟩, rfl, rfl⟩⟩
          · refine bselF hb16 ?_
            refine bselF hb16 ?_
            refine bselF hb16 ?_
            refine bselF hb16 ?_
            refine bselF hb16 ?_
            refine qn128 _ _ ?_
            obtain rfl := Option.some.inj h12
            refine EOk.done ?_
            exact ⟨⟨_, rfl⟩, [], trivial, ⟨⟨rfl, rfl, rfl, rfl, rfl, trivial⟩, ⟨rfl, trivial⟩, rfl, rfl⟩⟩
        · refine bselF hb14 ?_
          refine bselF hb14 ?_
          refine bselF hb14 ?_
          refine bselF hb14 ?_
          refine bselF hb14 ?_
          refine qn128 _ _ ?_
          obtain rfl := Option.some.inj h12
          refine EOk.done ?_
          exact ⟨⟨_, rfl⟩, [], trivial, ⟨⟨rfl, rfl, rfl, rfl, rfl, trivial⟩, ⟨rfl, trivial⟩, rfl, rfl⟩⟩
      rintro ⟨v11, hv_⟩
      replace hv_ := hv_.symm
      subst hv_
      refine qn127 _ _ ?_
      refine goc hn ?_
      refine bselM h7 (fun hb18 h7 => ?_) (fun hb18 h7 => ?_)
      · refine gok hn ?_
        refine qn126 _ _ ?_
        refine COk.seqQ fun Q129 qn129 qx129 qr129 => ?_
        refine COk.blkQ fun Q136 qn136 qe136 qx136 qr136 => ?_
        refine COk.seqQ fun Q137 qn137 qx137 qr137 => ?_
        refine COk.seqQ fun Q138 qn138 qx138 qr138 => ?_
        refine gor hn ?_
        obtain ⟨x19, hx20, h7⟩ := bindM h7
        refine idxM hx20 ?_
        obtain ⟨r21, hr22, h7⟩ := bindM h7
        show CallOk Try.prog _ _ _ _
        refine CallOk.as (slices_BinarySearchFunc_api_Method_api_Method_string_ok N x19.methods a2 (fun x0_ x1_ => class_order N x0_ x1_) (fun x0_ x1_ y_ hy_ => class_order_ok N x0_ x1_ y_ hy_) r21 hr22) (by repeat (first | exact trivial | exact rfl | (refine And.intro ?_ ?_))) trivial rfl ?_
        refine qn138 _ _ ?_
        refine COk.seqQ fun Q139 qn139 qx139 qr139 => ?_
        refine COk.sub (ts2 := [(1, .int v2), (2, .str a2), (3, .ptr 3 0), (8, .int v3), (9, .int r21.1), (10, .bool r21.2)]) (os2 := [(3, .box (eWd a0) 55)]) [] ⟨⟨rfl, rfl, rfl, rfl, rfl, rfl, trivial⟩, ⟨rfl, trivial⟩, rfl, rfl⟩ (by rw [hn]; rfl) ?_
        refine gor hn ?_
        refine qn139 _ _ ?_
        refine goc hn ?_
        refine bselM h7 (fun hb23 h7 => ?_) (fun hb23 h7 => ?_)
        · refine COk.seqQ fun Q141 qn141 qx141 qr141 => ?_
          refine gor hn ?_
          refine qn141 _ _ ?_
          refine got hn ?_
          refine qr137 _ _ ?_
          refine qr136 _ _ ?_
          refine qr129 _ _ ?_
          refine qr125 _ _ ?_
          refine qr124 _ _ ?_
          refine qr123 _ _ ?_
          refine qr73 _ _ ?_
          obtain rfl := Option.some.inj h7
          obtain rfl := Option.some.inj h
          exact ⟨[], _, rfl, (by repeat (first | exact trivial | exact rfl | (refine And.intro ?_ ?_))), trivial, rfl, rfl, rfl, rfl, rfl⟩
        · refine gok hn ?_
          refine qn137 _ _ ?_
          refine gor hn ?_
          obtain ⟨x24, hx25, h7⟩ := bindM h7
          refine idxM hx25 ?_
          refine qn136 _ _ ?_
          refine qn129 _ _ ?_
          refine gor hn ?_
          refine Or.inr ?_
          refine qn125 _ _ ?_
          refine EOk.done ?_
          exact ⟨⟨(n10, x24.super, (wr (v3 + (1 : Int)))), h7⟩, [], by show n10 < n10 + 1; omega, ⟨⟨rfl, rfl, rfl, rfl, trivial⟩, ⟨rfl, trivial⟩, rfl, rfl⟩⟩
      · refine goe hn ?_
        refine qx126 _ _ _ ?_
        refine qx125 _ _ _ ?_
        refine qe124 _ _ ?_
        refine qn123 _ _ ?_
        obtain rfl := Option.some.inj h7
        refine EOk.done ?_
        exact ⟨⟨_, rfl⟩, [], trivial, ⟨trivial, trivial, rfl, rfl⟩⟩
  rintro ⟨⟨⟩, rfl⟩
  refine qn73 _ _ ?_
  refine COk.seqQ fun Q142 qn142 qx142 qr142 => ?_
  refine gor hn ?_
  refine qn142 _ _ ?_
  refine got hn ?_
  obtain rfl := Option.some.inj h
  exact ⟨[], _, rfl, (by repeat (first | exact trivial | exact rfl | (refine And.intro ?_ ?_))), trivial, rfl, rfl, rfl, rfl, rfl⟩

/- choose.Site -/
set_option maxRecDepth 100000 in
set_option maxHeartbeats 1000000 in
theorem choose_Site_ok (N : Nat) (a0 : Wd) (a1 : (List Tl)) (a2 : St) (a3 : ByteArray) (a4 : Int) (r : Int) (h : choose_Site N a0 a1 a2 a3 a4 = some r) : Spec Try.prog 43 [] [.agg (eWd a0), .sl 4 (List.map eTl a1), .agg (eSt a2), .str a3, .int a4] (.int r) [] [] := by
  refine Spec.of tabOk Try.func43 rfl Try.ntmps43 (by kernel_rfl) rfl rfl rfl fun Γ hn => ?_
  unfold choose_Site at h
  refine COk.seqQ fun Q16 qn16 qx16 qr16 => ?_
  refine gor hn ?_
  refine qn16 _ _ ?_
  refine COk.seqQ fun Q17 qn17 qx17 qr17 => ?_
  refine gor hn ?_
  obtain ⟨r1, hr2, h⟩ := bindM h
  show CallOk Try.prog _ _ _ _
  refine CallOk.as (tally_Most_ok N a1 a2 r1 hr2) (by repeat (first | exact trivial | exact rfl | (refine And.intro ?_ ?_))) trivial rfl ?_
  refine qn17 _ _ ?_
  refine COk.seqQ fun Q18 qn18 qx18 qr18 => ?_
  refine COk.seqQ fun Q19 qn19 qx19 qr19 => ?_
  refine gor hn ?_
  obtain ⟨r3, hr4, h⟩ := bindM h
  show CallOk Try.prog _ _ _ _
  refine CallOk.as (tally_All_ok N a1 a2 r3 hr4) (by repeat (first | exact trivial | exact rfl | (refine And.intro ?_ ?_))) trivial rfl ?_
  refine qn19 _ _ ?_
  refine COk.seqQ fun Q20 qn20 qx20 qr20 => ?_
  obtain ⟨o7, h6, h⟩ := bindM h
  refine COk.joinR (ι := { s : Bool // o7 = s }) (fun s => [(3, .str a3), (4, .int a4), (5, .ptr 5 0), (11, .int r1.1), (36, .bool s.1)]) (fun s => [(5, .box (eWd a0) 55)]) (fun Q21 qn21 qx21 qr21 => ?_) (by intro s; rw [hn]; rfl) ?_
  · refine COk.sub (ts2 := [(3, .str a3), (4, .int a4), (5, .ptr 5 0), (11, .int r1.1), (12, .int r1.2), (13, .int r3)]) (os2 := [(5, .box (eWd a0) 55)]) [] ⟨⟨rfl, rfl, rfl, rfl, rfl, rfl, trivial⟩, ⟨rfl, trivial⟩, rfl, rfl⟩ (by rw [hn]; rfl) ?_
    refine gor hn ?_
    refine bselM h6 (fun hb8 h6 => ?_) (fun hb8 h6 => ?_)
    · refine bselT hb8 ?_
      refine bselT hb8 ?_
      refine qn21 _ _ ?_
      obtain rfl := Option.some.inj h6
      refine EOk.done ?_
      exact ⟨⟨_, rfl⟩, [], trivial, ⟨⟨rfl, rfl, rfl, rfl, rfl, trivial⟩, ⟨rfl, trivial⟩, rfl, rfl⟩⟩
    · refine bselF hb8 ?_
      refine bselF hb8 ?_
      refine bselM h6 (fun hb9 h6 => ?_) (fun hb9 h6 => ?_)
      · refine bselT hb9 ?_
        refine bselT hb9 ?_
        refine bselT hb9 ?_
        refine bselT hb9 ?_
        refine qn21 _ _ ?_
        obtain rfl := Option.some.inj h6
        refine EOk.done ?_
        exact ⟨⟨_, rfl⟩, [], trivial, ⟨⟨rfl, rfl, rfl, rfl, rfl, trivial⟩, ⟨rfl, trivial⟩, rfl, rfl⟩⟩
      · refine bselF hb9 ?_
        refine Or.inr ?_
        refine bselF hb9 ?_
        refine bselF hb9 ?_
        refine bselF hb9 ?_
        refine qn21 _ _ ?_
        obtain rfl := Option.some.inj h6
        refine EOk.done ?_
        exact ⟨⟨_, rfl⟩, [], trivial, ⟨⟨rfl, rfl, rfl, rfl, rfl, trivial⟩, ⟨rfl, trivial⟩, rfl, rfl⟩⟩
  rintro ⟨v5, hv_⟩
  replace hv_ := hv_.symm
  subst hv_
  refine qn20 _ _ ?_
  refine goc hn ?_
  refine bselM h (fun hb10 h => ?_) (fun hb10 h => ?_)
  · refine COk.seqQ fun Q23 qn23 qx23 qr23 => ?_
    refine gor hn ?_
    refine qn23 _ _ ?_
    refine got hn ?_
    refine qr18 _ _ ?_
    obtain rfl := Option.some.inj h
    exact ⟨[], _, rfl, (by repeat (first | exact trivial | exact rfl | (refine And.intro ?_ ?_))), trivial, rfl, rfl, rfl, rfl, rfl⟩
  · refine gok hn ?_
    refine qn18 _ _ ?_
    refine COk.seqQ fun Q24 qn24 qx24 qr24 => ?_
    refine gor hn ?_
    obtain ⟨r11, hr12, h⟩ := bindM h
    show CallOk Try.prog _ _ _ _
    refine CallOk.as (class_Find_ok N a0 r1.1 a3 r11 hr12) (by repeat (first | exact trivial | exact rfl | (refine And.intro ?_ ?_))) trivial rfl ?_
    refine qn24 _ _ ?_
    refine COk.seqQ fun Q25 qn25 qx25 qr25 => ?_
    refine COk.seqQ fun Q26 qn26 qx26 qr26 => ?_
    obtain ⟨o15, h14, h⟩ := bindM h
    refine COk.joinR (ι := { s : Bool // o15 = s }) (fun s => [(11, .int r1.1), (72, .bool s.1)]) (fun s => []) (fun Q27 qn27 qx27 qr27 => ?_) (by intro s; rw [hn]; rfl) ?_
    · refine gor hn ?_
      refine bselM h14 (fun hb16 h14 => ?_) (fun hb16 h14 => ?_)
      · refine bselT hb16 ?_
        refine bselT hb16 ?_
        refine bselT hb16 ?_
        refine bselT hb16 ?_
        refine bselT hb16 ?_
        refine bselT hb16 ?_
        refine bselT hb16 ?_
        refine bselT hb16 ?_
        refine bselT hb16 ?_
        refine bselT hb16 ?_
        refine bselT hb16 ?_
        refine qn27 _ _ ?_
        obtain rfl := Option.some.inj h14
        refine EOk.done ?_
        exact ⟨⟨_, rfl⟩, [], trivial, ⟨⟨rfl, rfl, trivial⟩, trivial, rfl, rfl⟩⟩
      · refine bselF hb16 ?_
        refine bselF hb16 ?_
        refine bselF hb16 ?_
        obtain ⟨x17, hx18, h14⟩ := bindM h14
        refine idxM hx18 ?_
        refine bselF hb16 ?_
        refine bselF hb16 ?_
        refine bselF hb16 ?_
        refine bselF hb16 ?_
        obtain ⟨x19, hx20, h14⟩ := bindM h14
        refine idxM hx20 ?_
        refine bselF hb16 ?_
        refine bselF hb16 ?_
        obtain ⟨r21, hr22, h14⟩ := bindM h14
        show CallOk Try.prog _ _ _ _
        refine CallOk.as (choose_Leaf_ok N x19 r21 hr22) (by repeat (first | exact trivial | exact rfl | (refine And.intro ?_ ?_))) trivial rfl ?_
        refine bselF hb16 ?_
        refine bselF hb16 ?_
        refine bselM h14 (fun hb23 h14 => ?_) (fun hb23 h14 => ?_)
        · refine bselT hb23 ?_
          refine bselT hb23 ?_
          refine bselT hb23 ?_
          refine bselT hb23 ?_
          refine bselT hb23 ?_
          refine bselT hb23 ?_
          refine bselT hb23 ?_
          refine bselT hb23 ?_
          refine bselT hb23 ?_
          refine bselT hb23 ?_
          refine bselT hb23 ?_
          refine bselT hb23 ?_
          refine qn27 _ _ ?_
          obtain rfl := Option.some.inj h14
          refine EOk.done ?_
          exact ⟨⟨_, rfl⟩, [], trivial, ⟨⟨rfl, rfl, trivial⟩, trivial, rfl, rfl⟩⟩
        · refine bselF hb23 ?_
          refine bselF hb23 ?_
          refine bselF hb23 ?_
          obtain ⟨x24, hx25, h14⟩ := bindM h14
          refine idxM hx25 ?_
          refine bselF hb23 ?_
          refine bselF hb23 ?_
          refine bselF hb23 ?_
          refine bselF hb23 ?_
          obtain ⟨x26, hx27, h14⟩ := bindM h14
          refine idxM hx27 ?_
          refine bselF hb23 ?_
          refine bselF hb23 ?_
          refine bselF hb23 ?_
          refine bselF hb23 ?_
          refine bselF hb23 ?_
          refine qn27 _ _ ?_
          obtain rfl := Option.some.inj h14
          refine EOk.done ?_
          exact ⟨⟨_, rfl⟩, [], trivial, ⟨⟨rfl, rfl, trivial⟩, trivial, rfl, rfl⟩⟩
    rintro ⟨v13, hv_⟩
    replace hv_ := hv_.symm
    subst hv_
    refine qn26 _ _ ?_
    refine goc hn ?_
    refine bselM h (fun hb28 h => ?_) (fun hb28 h => ?_)
    · refine COk.seqQ fun Q29 qn29 qx29 qr29 => ?_
      refine gor hn ?_
      refine qn29 _ _ ?_
      refine got hn ?_
      refine qr25 _ _ ?_
      obtain rfl := Option.some.inj h
      exact ⟨[], _, rfl, (by repeat (first | exact trivial | exact rfl | (refine And.intro ?_ ?_))), trivial, rfl, rfl, rfl, rfl, rfl⟩
    · refine gok hn ?_
      refine qn25 _ _ ?_
      refine COk.seqQ fun Q30 qn30 qx30 qr30 => ?_
      refine gor hn ?_
      refine qn30 _ _ ?_
      refine got hn ?_
      obtain rfl := Option.some.inj h
      exact ⟨[], _, rfl, (by repeat (first | exact trivial | exact rfl | (refine And.intro ?_ ?_))), trivial, rfl, rfl, rfl, rfl, rfl⟩

/- choose.Sites -/
set_option maxRecDepth 100000 in
set_option maxHeartbeats 1000000 in
theorem choose_Sites_ok (N : Nat) (a0 : Wd) (a1 : (List Tl)) (a2 : Int) (a3 : Int) (r : (List Int)) (h : choose_Sites N a0 a1 a2 a3 = some r) : Spec Try.prog 41 [] [.agg (eWd a0), .sl 4 (List.map eTl a1), .int a2, .int a3] (.own 0) [(0, .row 1 (List.map eInt r) 3)] [0] := by
  refine Spec.of tabOk Try.func41 rfl Try.ntmps41 (by kernel_rfl) rfl rfl rfl fun Γ hn => ?_
  unfold choose_Sites at h
  refine COk.seqQ fun Q92 qn92 qx92 qr92 => ?_
  refine gor hn ?_
  refine qn92 _ _ ?_
  refine COk.seqQ fun Q93 qn93 qx93 qr93 => ?_
  refine COk.seqQ fun Q94 qn94 qx94 qr94 => ?_
  obtain ⟨o3, h2, h⟩ := bindM h
  refine COk.joinR (ι := { s : Bool // o3 = s }) (fun s => [(1, .sl 4 (List.map eTl a1)), (2, .int a2), (3, .int a3), (4, .ptr 4 0), (37, .bool s.1)]) (fun s => [(4, .box (eWd a0) 55)]) (fun Q95 qn95 qx95 qr95 => ?_) (by intro s; rw [hn]; rfl) ?_
  · refine gor hn ?_
    refine bselM h2 (fun hb4 h2 => ?_) (fun hb4 h2 => ?_)
    · refine bselT hb4 ?_
      refine bselT hb4 ?_
      refine bselT hb4 ?_
      refine bselT hb4 ?_
      refine bselT hb4 ?_
      refine qn95 _ _ ?_
      obtain rfl := Option.some.inj h2
      refine EOk.done ?_
      exact ⟨⟨_, rfl⟩, [], trivial, ⟨⟨(by repeat (first | exact trivial | exact rfl | (refine And.intro ?_ ?_))), rfl, rfl, rfl, rfl, trivial⟩, ⟨rfl, trivial⟩, rfl, rfl⟩⟩
    · refine bselF hb4 ?_
      refine bselF hb4 ?_
      refine bselF hb4 ?_
      refine lenM (fun hl5 => ?_)
      refine bselF hb4 ?_
      refine bselF hb4 ?_
      refine bselM h2 (fun hb6 h2 => ?_) (fun hb6 h2 => ?_)
      · refine bselT hb6 ?_
        refine bselT hb6 ?_
        refine qn95 _ _ ?_
        obtain rfl := Option.some.inj h2
        refine EOk.done ?_
        exact ⟨⟨_, rfl⟩, [], trivial, ⟨⟨(by repeat (first | exact trivial | exact rfl | (refine And.intro ?_ ?_))), rfl, rfl, rfl, rfl, trivial⟩, ⟨rfl, trivial⟩, rfl, rfl⟩⟩
      · refine bselF hb6 ?_
        refine bselF hb6 ?_
        refine bselM h2 (fun hb7 h2 => ?_) (fun hb7 h2 => ?_)
        · refine bselT hb7 ?_
          refine bselT hb7 ?_
          refine bselT hb7 ?_
          refine bselT hb7 ?_
          refine bselT hb7 ?_
          refine bselT hb7 ?_
          refine bselT hb7 ?_
          refine bselT hb7 ?_
          refine bselT hb7 ?_
          refine qn95 _ _ ?_
          obtain rfl := Option.some.inj h2
          refine EOk.done ?_
          exact ⟨⟨_, rfl⟩, [], trivial, ⟨⟨(by repeat (first | exact trivial | exact rfl | (refine And.intro ?_ ?_))), rfl, rfl, rfl, rfl, trivial⟩, ⟨rfl, trivial⟩, rfl, rfl⟩⟩
        · refine bselF hb7 ?_
          refine bselF hb7 ?_
          refine bselF hb7 ?_
          refine bselF hb7 ?_
          obtain ⟨x8, hx9, h2⟩ := bindM h2
          refine idxM hx9 ?_
          refine bselF hb7 ?_
          refine bselF hb7 ?_
          refine bselF hb7 ?_
          refine lenM (fun hl10 => ?_)
          refine bselF hb7 ?_
          refine bselF hb7 ?_
          refine qn95 _ _ ?_
          obtain rfl := Option.some.inj h2
          refine EOk.done ?_
          exact ⟨⟨_, rfl⟩, [], trivial, ⟨⟨(by repeat (first | exact trivial | exact rfl | (refine And.intro ?_ ?_))), rfl, rfl, rfl, rfl, trivial⟩, ⟨rfl, trivial⟩, rfl, rfl⟩⟩
  rintro ⟨v1, hv_⟩
  replace hv_ := hv_.symm
  subst hv_
  refine qn94 _ _ ?_
  refine goc hn ?_
  refine bselM h (fun hb11 h => ?_) (fun hb11 h => ?_)
  · refine COk.seqQ fun Q97 qn97 qx97 qr97 => ?_
    refine gor hn ?_
    refine qn97 _ _ ?_
    refine COk.nilrow 8 208 1 3 rfl rfl rfl ?_
    refine got hn ?_
    refine qr93 _ _ ?_
    obtain rfl := Option.some.inj h
    exact ⟨[(0, 208)], _, rfl, (by repeat (first | exact trivial | exact rfl | (refine And.intro ?_ ?_))), ⟨rfl, trivial⟩, rfl, rfl, rfl, rfl, rfl⟩
  · refine gok hn ?_
    refine qn93 _ _ ?_
    refine COk.seqQ fun Q98 qn98 qx98 qr98 => ?_
    refine gor hn ?_
    obtain ⟨x12, hx13, h⟩ := bindM h
    refine idxM hx13 ?_
    obtain ⟨x14, hx15, h⟩ := bindM h
    refine idxM hx15 ?_
    refine qn98 _ _ ?_
    refine COk.seqQ fun Q99 qn99 qx99 qr99 => ?_
    refine gor hn ?_
    refine qn99 _ _ ?_
    refine COk.seqQ fun Q100 qn100 qx100 qr100 => ?_
    refine COk.seqQ fun Q101 qn101 qx101 qr101 => ?_
    refine gor hn ?_
    refine lenM (fun hl16 => ?_)
    refine qn101 _ _ ?_
    refine COk.nilrow 10 210 1 3 rfl rfl rfl ?_
    obtain ⟨o21, h22, h⟩ := bindM h
    refine COk.joinR (ι := { s : (List Int) // o21 = s }) (fun s => [(10, .own 210)]) (fun s => [(210, .row 1 (List.map eInt s.1) 3)]) (fun Q162 qn162 qx162 qr162 => ?_) (by intro s; rw [hn]; rfl) ?_
    · refine COk.blkQ fun Q163 qn163 qe163 qx163 qr163 => ?_
      refine COk.loopQ (ι := { q : ((List Ins) × Nat × (List Int)) // q.1 = x14.code.drop q.2.1 ∧ choose_Sites_l1 N a0 a1 a2 x14 q.1 q.2.1 q.2.2 = some o21 }) (fun q => [(1, .sl 4 (List.map eTl a1)), (2, .int a2), (4, .ptr 4 0), (9, .fp (eMe x14)), (10, .own 210), (49, .sl 5 (List.map eIns x14.code)), (50, .int (x14.code.length : Int)), (51, .int (q.1.2.1 : Int))]) (fun q => [(4, .box (eWd a0) 55), (210, .row 1 (List.map eInt q.1.2.2) 3)]) (fun q => q.1.1.length) ⟨(x14.code, 0, ([] : List Int)), rfl, h22⟩ [] ⟨⟨(by repeat (first | exact trivial | exact rfl | (refine And.intro ?_ ?_))), rfl, rfl, (by repeat (first | exact trivial | exact rfl | (refine And.intro ?_ ?_))), rfl, (by repeat (first | exact trivial | exact rfl | (refine And.intro ?_ ?_))), rfl, rfl, trivial⟩, ⟨rfl, rfl, trivial⟩, rfl, rfl⟩ (by intro q; rw [hn]; rfl) ?_
      rintro ⟨⟨rest_, k17, v18⟩, hd24, h22⟩ Q164 qn164 qx164 qr164
      replace hd24 : rest_ = x14.code.drop k17 := hd24
      rcases rest_ with _ | ⟨x26, rest23⟩
      · have hlt28 := restNil hd24
        replace h22 := (choose_Sites_l1.eq_1 _ _ _ _ _ _ _).symm.trans h22
        refine COk.seqQ fun Q165 qn165 qx165 qr165 => ?_
        refine gor hn ?_
        refine qn165 _ _ ?_
        refine COk.seqQ fun Q166 qn166 qx166 qr166 => ?_
        refine goc hn ?_
        refine bselF hlt28 ?_
        refine goe hn ?_
        refine qx166 _ _ _ ?_
        refine qx164 _ _ _ ?_
        refine qe163 _ _ ?_
        refine qn162 _ _ ?_
        obtain rfl := Option.some.inj h22
        refine EOk.done ?_
        exact ⟨⟨_, rfl⟩, [], trivial, ⟨⟨rfl, trivial⟩, ⟨rfl, trivial⟩, rfl, rfl⟩⟩
      · obtain ⟨hx27, hd2, hlt28⟩ := restCons hd24
        replace h22 := (choose_Sites_l1.eq_2 _ _ _ _ _ _ _ _ _).symm.trans h22
        refine COk.seqQ fun Q167 qn167 qx167 qr167 => ?_
        refine gor hn ?_
        refine qn167 _ _ ?_
        refine COk.seqQ fun Q168 qn168 qx168 qr168 => ?_
        refine goc hn ?_
        refine bselT hlt28 ?_
        refine gok hn ?_
        refine qn168 _ _ ?_
        refine COk.seqQ fun Q169 qn169 qx169 qr169 => ?_
        refine COk.blkQ fun Q176 qn176 qe176 qx176 qr176 => ?_
        refine COk.seqQ fun Q177 qn177 qx177 qr177 => ?_
        refine gor hn ?_
        refine idxK hx27 ?_
        refine qn177 _ _ ?_
        refine COk.seqQ fun Q178 qn178 qx178 qr178 => ?_
        refine gor hn ?_
        refine qn178 _ _ ?_
        refine COk.seqQ fun Q179 qn179 qx179 qr179 => ?_
        refine COk.seqQ fun Q180 qn180 qx180 qr180 => ?_
        refine gor hn ?_
        refine qn180 _ _ ?_
        obtain ⟨o31, h30, h22⟩ := bindM h22
        refine COk.joinR (ι := { s : Int // o31 = s }) (fun s => [(1, .sl 4 (List.map eTl a1)), (2, .int a2), (4, .ptr 4 0), (9, .fp (eMe x14)), (10, .own 210), (13, .int s.1), (49, .sl 5 (List.map eIns x14.code)), (50, .int (x14.code.length : Int)), (51, .int (k17 : Int))]) (fun s => [(4, .box (eWd a0) 55), (210, .row 1 (List.map eInt v18) 3)]) (fun Q181 qn181 qx181 qr181 => ?_) (by intro s; rw [hn]; rfl) ?_
        · refine goc hn ?_
          refine bselM h30 (fun hb32 h30 => ?_) (fun hb32 h30 => ?_)
          · refine COk.sub (ts2 := [(1, .sl 4 (List.map eTl a1)), (2, .int a2), (4, .ptr 4 0), (9, .fp (eMe x14)), (10, .own 210), (11, .int (k17 : Int)), (12, .ptr 12 0), (49, .sl 5 (List.map eIns x14.code)), (50, .int (x14.code.length : Int)), (51, .int (k17 : Int))]) (os2 := [(4, .box (eWd a0) 55), (12, .box (eIns x26) 81), (210, .row 1 (List.map eInt v18) 3)]) [] ⟨⟨(by repeat (first | exact trivial | exact rfl | (refine And.intro ?_ ?_))), rfl, rfl, (by repeat (first | exact trivial | exact rfl | (refine And.intro ?_ ?_))), rfl, rfl, rfl, (by repeat (first | exact trivial | exact rfl | (refine And.intro ?_ ?_))), rfl, rfl, trivial⟩, ⟨rfl, rfl, rfl, trivial⟩, rfl, rfl⟩ (by rw [hn]; rfl) ?_
            refine god hn (by kernel_rfl) ?_
            obtain ⟨r33, hr34, h30⟩ := bindM h30
            show CallOk Try.prog _ _ _ _
            refine CallOk.as (choose_Site_ok N a0 a1 (⟨a2, x14.name, (k17 : Int)⟩ : St) x26.name x26.a r33 hr34) (by repeat (first | exact trivial | exact rfl | (refine And.intro ?_ ?_))) trivial rfl ?_
            refine qn181 _ _ ?_
            obtain rfl := Option.some.inj h30
            refine EOk.done ?_
            exact ⟨⟨_, rfl⟩, [], trivial, ⟨⟨(by repeat (first | exact trivial | exact rfl | (refine And.intro ?_ ?_))), rfl, rfl, (by repeat (first | exact trivial | exact rfl | (refine And.intro ?_ ?_))), rfl, rfl, (by repeat (first | exact trivial | exact rfl | (refine And.intro ?_ ?_))), rfl, rfl, trivial⟩, ⟨rfl, rfl, trivial⟩, rfl, rfl⟩⟩
          · refine gok hn ?_
            refine qn181 _ _ ?_
            obtain rfl := Option.some.inj h30
            refine EOk.done ?_
            exact ⟨⟨_, rfl⟩, [], trivial, ⟨⟨(by repeat (first | exact trivial | exact rfl | (refine And.intro ?_ ?_))), rfl, rfl, (by repeat (first | exact trivial | exact rfl | (refine And.intro ?_ ?_))), rfl, rfl, (by repeat (first | exact trivial | exact rfl | (refine And.intro ?_ ?_))), rfl, rfl, trivial⟩, ⟨rfl, rfl, trivial⟩, rfl, rfl⟩⟩
        rintro ⟨v29, hv_⟩
        replace hv_ := hv_.symm
        subst hv_
        refine qn179 _ _ ?_
        refine gor hn ?_
        refine Exists.intro (List.map eInt [v29]) (And.intro (by repeat (first | exact trivial | exact rfl | (refine And.intro ?_ ?_))) ?_)
        obtain ⟨hg35, h22⟩ := guardM h22
        refine appM (l2 := [v29]) hg35 (leLs_refl _) ?_
        refine qn176 _ _ ?_
        refine qn169 _ _ ?_
        refine gor hn ?_
        refine Or.inl (And.intro (inrK hx27 hl16) ?_)
        refine qn164 _ _ ?_
        refine EOk.done ?_
        exact ⟨⟨(rest23, k17 + 1, (v18 ++ [v29])), hd2, h22⟩, [(210, 76)], by show rest23.length < rest23.length + 1; omega, ⟨⟨(by repeat (first | exact trivial | exact rfl | (refine And.intro ?_ ?_))), rfl, rfl, (by repeat (first | exact trivial | exact rfl | (refine And.intro ?_ ?_))), rfl, (by repeat (first | exact trivial | exact rfl | (refine And.intro ?_ ?_))), rfl, rfl, trivial⟩, ⟨rfl, rfl, trivial⟩, rfl, rfl⟩⟩
    rintro ⟨v20, hv_⟩
    replace hv_ := hv_.symm
    subst hv_
    refine qn100 _ _ ?_
    refine COk.seqQ fun Q182 qn182 qx182 qr182 => ?_
    refine gor hn ?_
    refine qn182 _ _ ?_
    refine got hn ?_
    obtain rfl := Option.some.inj h
    exact ⟨[(0, 210)], _, rfl, (by repeat (first | exact trivial | exact rfl | (refine And.intro ?_ ?_))), ⟨rfl, trivial⟩, rfl, rfl, rfl, rfl, rfl⟩

/- qcref1.Find -/
set_option maxRecDepth 100000 in
set_option maxHeartbeats 1000000 in
theorem qcref1_Find_ok (N : Nat) (a0 : Wd) (a1 : Int) (a2 : ByteArray) (r : (Int × Int)) (h : qcref1_Find N a0 a1 a2 = some r) : Spec Try.prog 46 [] [.agg (eWd a0), .int a1, .str a2] (.tup [.int r.1, .int r.2]) [] [] := by
  refine Spec.of tabOk Try.func46 rfl Try.ntmps46 (by kernel_rfl) rfl rfl rfl fun Γ hn => ?_
  unfold qcref1_Find at h
  refine COk.seqQ fun Q301 qn301 qx301 qr301 => ?_
  refine gor hn ?_
  refine qn301 _ _ ?_
  refine COk.seqQ fun Q302 qn302 qx302 qr302 => ?_
  refine COk.seqQ fun Q303 qn303 qx303 qr303 => ?_
  refine gor hn ?_
  obtain ⟨r1, hr2, h⟩ := bindM h
  show CallOk Try.prog _ _ _ _
  refine CallOk.as ((qcref1_Ups_ok N a0 a1 r1 hr2).sw 0 14) (by repeat (first | exact trivial | exact rfl | (refine And.intro ?_ ?_))) trivial rfl ?_
  refine lenM (fun hl3 => ?_)
  refine qn303 _ _ ?_
  obtain ⟨o5, h6, h⟩ := bindM h
  refine COk.joinR (ι := { s : Unit // o5 = Ctl.next s }) (fun s => []) (fun s => []) (fun Q498 qn498 qx498 qr498 => ?_) (by intro s; rw [hn]; rfl) ?_
  · refine COk.blkQ fun Q499 qn499 qe499 qx499 qr499 => ?_
    refine COk.loopQ (ι := { q : ((List Int) × Nat) // q.1 = r1.drop q.2 ∧ qcref1_Find_l1 N a0 a2 r1 q.1 q.2 = some o5 }) (fun q => [(2, .str a2), (3, .ptr 3 0), (14, .own 14), (15, .int (r1.length : Int)), (16, .int (q.1.2 : Int))]) (fun q => [(3, .box (eWd a0) 55), (14, .row 1 (List.map eInt r1) 3)]) (fun q => q.1.1.length) ⟨(r1, 0), rfl, h6⟩ [] ⟨⟨rfl, rfl, rfl, rfl, rfl, trivial⟩, ⟨rfl, rfl, trivial⟩, rfl, rfl⟩ (by intro q; rw [hn]; rfl) ?_
    rintro ⟨⟨rest_, k4⟩, hd8, h6⟩ Q500 qn500 qx500 qr500
    replace hd8 : rest_ = r1.drop k4 := hd8
    rcases rest_ with _ | ⟨x10, rest7⟩
    · have hlt12 := restNil hd8
      replace h6 := (qcref1_Find_l1.eq_1 _ _ _ _ _).symm.trans h6
      refine COk.seqQ fun Q501 qn501 qx501 qr501 => ?_
      refine gor hn ?_
      refine qn501 _ _ ?_
      refine COk.seqQ fun Q502 qn502 qx502 qr502 => ?_
      refine goc hn ?_
      refine bselF hlt12 ?_
      refine goe hn ?_
      refine qx502 _ _ _ ?_
      refine qx500 _ _ _ ?_
      refine qe499 _ _ ?_
      refine qn498 _ _ ?_
      obtain rfl := Option.some.inj h6
      refine EOk.done ?_
      exact ⟨⟨_, rfl⟩, [], trivial, ⟨trivial, trivial, rfl, rfl⟩⟩
    · obtain ⟨hx11, hd2, hlt12⟩ := restCons hd8
      replace h6 := (qcref1_Find_l1.eq_2 _ _ _ _ _ _ _).symm.trans h6
      refine COk.seqQ fun Q503 qn503 qx503 qr503 => ?_
      refine gor hn ?_
      refine qn503 _ _ ?_
      refine COk.seqQ fun Q504 qn504 qx504 qr504 => ?_
      refine goc hn ?_
      refine bselT hlt12 ?_
      refine gok hn ?_
      refine qn504 _ _ ?_
      refine COk.seqQ fun Q505 qn505 qx505 qr505 => ?_
      refine COk.blkQ fun Q553 qn553 qe553 qx553 qr553 => ?_
      refine COk.seqQ fun Q554 qn554 qx554 qr554 => ?_
      refine gor hn ?_
      obtain ⟨x13, hx14, h6⟩ := bindM h6
      refine ownM hx14 ?_
      refine ldM (nthO_some hx14).2 ?_
      refine qn554 _ _ ?_
      refine COk.seqQ fun Q555 qn555 qx555 qr555 => ?_
      refine gor hn ?_
      obtain ⟨x15, hx16, h6⟩ := bindM h6
      refine idxM hx16 ?_
      refine lenM (fun hl17 => ?_)
      refine qn555 _ _ ?_
      obtain ⟨o19, h20, h6⟩ := bindM h6
      refine COk.joinR (ι := { s : Unit // o19 = Ctl.next s }) (fun s => [(2, .str a2), (3, .ptr 3 0), (14, .own 14), (15, .int (r1.length : Int)), (16, .int (k4 : Int))]) (fun s => [(3, .box (eWd a0) 55), (14, .row 1 (List.map eInt r1) 3)]) (fun Q582 qn582 qx582 qr582 => ?_) (by intro s; rw [hn]; rfl) ?_
      · refine COk.blkQ fun Q583 qn583 qe583 qx583 qr583 => ?_
        refine COk.loopQ (ι := { q : ((List Me) × Nat) // q.1 = x15.methods.drop q.2 ∧ qcref1_Find_l2 N a2 x13 q.1 q.2 = some o19 }) (fun q => [(2, .str a2), (3, .ptr 3 0), (9, .int x13), (14, .own 14), (15, .int (r1.length : Int)), (16, .int (k4 : Int)), (25, .sl 5 (List.map eMe x15.methods)), (26, .int (x15.methods.length : Int)), (27, .int (q.1.2 : Int))]) (fun q => [(3, .box (eWd a0) 55), (14, .row 1 (List.map eInt r1) 3)]) (fun q => q.1.1.length) ⟨(x15.methods, 0), rfl, h20⟩ [] ⟨⟨rfl, rfl, rfl, rfl, rfl, rfl, (by repeat (first | exact trivial | exact rfl | (refine And.intro ?_ ?_))), rfl, rfl, trivial⟩, ⟨rfl, rfl, trivial⟩, rfl, rfl⟩ (by intro q; rw [hn]; rfl) ?_
        rintro ⟨⟨rest_, k18⟩, hd22, h20⟩ Q584 qn584 qx584 qr584
        replace hd22 : rest_ = x15.methods.drop k18 := hd22
        rcases rest_ with _ | ⟨x24, rest21⟩
        · have hlt26 := restNil hd22
          replace h20 := (qcref1_Find_l2.eq_1 _ _ _ _).symm.trans h20
          refine COk.seqQ fun Q585 qn585 qx585 qr585 => ?_
          refine gor hn ?_
          refine qn585 _ _ ?_
          refine COk.seqQ fun Q586 qn586 qx586 qr586 => ?_
          refine goc hn ?_
          refine bselF hlt26 ?_
          refine goe hn ?_
          refine qx586 _ _ _ ?_
          refine qx584 _ _ _ ?_
          refine qe583 _ _ ?_
          refine qn582 _ _ ?_
          obtain rfl := Option.some.inj h20
          refine EOk.done ?_
          exact ⟨⟨_, rfl⟩, [], trivial, ⟨⟨rfl, rfl, rfl, rfl, rfl, trivial⟩, ⟨rfl, rfl, trivial⟩, rfl, rfl⟩⟩
        · obtain ⟨hx25, hd2, hlt26⟩ := restCons hd22
          replace h20 := (qcref1_Find_l2.eq_2 _ _ _ _ _ _).symm.trans h20
          refine COk.seqQ fun Q587 qn587 qx587 qr587 => ?_
          refine gor hn ?_
          refine qn587 _ _ ?_
          refine COk.seqQ fun Q588 qn588 qx588 qr588 => ?_
          refine goc hn ?_
          refine bselT hlt26 ?_
          refine gok hn ?_
          refine qn588 _ _ ?_
          refine COk.seqQ fun Q589 qn589 qx589 qr589 => ?_
          refine COk.blkQ fun Q595 qn595 qe595 qx595 qr595 => ?_
          refine COk.seqQ fun Q596 qn596 qx596 qr596 => ?_
          refine gor hn ?_
          refine idxK hx25 ?_
          refine qn596 _ _ ?_
          refine COk.seqQ fun Q597 qn597 qx597 qr597 => ?_
          refine gor hn ?_
          refine qn597 _ _ ?_
          refine goc hn ?_
          refine bselM h20 (fun hb27 h20 => ?_) (fun hb27 h20 => ?_)
          · refine COk.seqQ fun Q599 qn599 qx599 qr599 => ?_
            refine COk.sub (ts2 := [(9, .int x13), (10, .int (k18 : Int))]) (os2 := []) [] ⟨⟨rfl, rfl, trivial⟩, trivial, rfl, rfl⟩ (by rw [hn]; rfl) ?_
            refine gor hn ?_
            refine qn599 _ _ ?_
            refine got hn ?_
            refine qr595 _ _ ?_
            refine qr589 _ _ ?_
            refine qr584 _ _ ?_
            refine qr583 _ _ ?_
            refine qr582 _ _ ?_
            refine qr553 _ _ ?_
            refine qr505 _ _ ?_
            refine qr500 _ _ ?_
            refine qr499 _ _ ?_
            refine qr498 _ _ ?_
            refine qr302 _ _ ?_
            obtain rfl := Option.some.inj h20
            obtain rfl := Option.some.inj h6
            obtain rfl := Option.some.inj h
            exact ⟨[], _, rfl, (by repeat (first | exact trivial | exact rfl | (refine And.intro ?_ ?_))), trivial, rfl, rfl, rfl, rfl, rfl⟩
          · refine gok hn ?_
            refine qn595 _ _ ?_
            refine qn589 _ _ ?_
            refine COk.sub (ts2 := [(2, .str a2), (3, .ptr 3 0), (9, .int x13), (14, .own 14), (15, .int (r1.length : Int)), (16, .int (k4 : Int)), (25, .sl 5 (List.map eMe x15.methods)), (26, .int (x15.methods.length : Int)), (27, .int (k18 : Int))]) (os2 := [(3, .box (eWd a0) 55), (14, .row 1 (List.map eInt r1) 3)]) [] ⟨⟨rfl, rfl, rfl, rfl, rfl, rfl, (by repeat (first | exact trivial | exact rfl | (refine And.intro ?_ ?_))), rfl, rfl, trivial⟩, ⟨rfl, rfl, trivial⟩, rfl, rfl⟩ (by rw [hn]; rfl) ?_
            refine gor hn ?_
            refine Or.inl (And.intro (inrK hx25 hl17) ?_)
            refine qn584 _ _ ?_
            refine EOk.done ?_
            exact ⟨⟨(rest21, k18 + 1), hd2, h20⟩, [], by show rest21.length < rest21.length + 1; omega, ⟨⟨rfl, rfl, rfl, rfl, rfl, rfl, (by repeat (first | exact trivial | exact rfl | (refine And.intro ?_ ?_))), rfl, rfl, trivial⟩, ⟨rfl, rfl, trivial⟩, rfl, rfl⟩⟩
      rintro ⟨⟨⟩, rfl⟩
      refine qn553 _ _ ?_
      refine qn505 _ _ ?_
      refine gor hn ?_
      refine Or.inl (And.intro (inrK hx11 hl3) ?_)
      refine qn500 _ _ ?_
      refine EOk.done ?_
      exact ⟨⟨(rest7, k4 + 1), hd2, h6⟩, [], by show rest7.length < rest7.length + 1; omega, ⟨⟨rfl, rfl, rfl, rfl, rfl, trivial⟩, ⟨rfl, rfl, trivial⟩, rfl, rfl⟩⟩
  rintro ⟨⟨⟩, rfl⟩
  refine qn302 _ _ ?_
  refine COk.seqQ fun Q600 qn600 qx600 qr600 => ?_
  refine gor hn ?_
  refine qn600 _ _ ?_
  refine got hn ?_
  obtain rfl := Option.some.inj h
  exact ⟨[], _, rfl, (by repeat (first | exact trivial | exact rfl | (refine And.intro ?_ ?_))), trivial, rfl, rfl, rfl, rfl, rfl⟩
end Go.Proofs.Ytioalgofaiideaa
