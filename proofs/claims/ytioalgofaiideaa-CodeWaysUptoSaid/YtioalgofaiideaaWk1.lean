/- Walks after the mirrors. Printed by mir.py. -/
import Derived.Test.YtioalgofaiideaaMir
import Derived.Test.YtioalgofaiideaaYnew
namespace Go.Proofs.Ytioalgofaiideaa
open Go.RowKit
set_option linter.unusedVariables false
/- qcref1.Next -/
set_option maxRecDepth 100000 in
set_option maxHeartbeats 1000000 in
theorem qcref1_Next_ok (N : Nat) (a0 : Ins) (a1 : Int) (r : (Int × Int × (List Int))) (h : qcref1_Next N a0 a1 = some r) : Spec Try.prog 53 [] [.agg (eIns a0), .int a1] (.tup [.int r.1, .int r.2.1, .own 0]) [(0, .row 1 (List.map eInt r.2.2) 3)] [0] := by
  refine Spec.of tabOk Try.func53 rfl Try.ntmps53 (by kernel_rfl) rfl rfl rfl fun Γ hn => ?_
  unfold qcref1_Next at h
  refine COk.seqQ fun Q77 qn77 qx77 qr77 => ?_
  refine gor hn ?_
  refine qn77 _ _ ?_
  refine COk.seqQ fun Q78 qn78 qx78 qr78 => ?_
  refine COk.seqQ fun Q79 qn79 qx79 qr79 => ?_
  refine gor hn ?_
  refine qn79 _ _ ?_
  refine COk.blkQ fun Q135 qn135 qe135 qx135 qr135 => ?_
  refine COk.seqQ fun Q136 qn136 qx136 qr136 => ?_
  refine COk.seqQ fun Q137 qn137 qx137 qr137 => ?_
  refine gor hn ?_
  refine qn137 _ _ ?_
  obtain ⟨o3, h2, h⟩ := bindM h
  refine COk.joinR (ι := { s : Bool // o3 = s }) (fun s => [(1, .int a1), (2, .ptr 2 0), (8, .int a0.op), (9, .bool s.1)]) (fun s => [(2, .box (eIns a0) 81)]) (fun Q138 qn138 qx138 qr138 => ?_) (by intro s; rw [hn]; rfl) ?_
  · refine goc hn ?_
    refine bselM h2 (fun hb4 h2 => ?_) (fun hb4 h2 => ?_)
    · refine gok hn ?_
      refine qn138 _ _ ?_
      obtain rfl := Option.some.inj h2
      refine EOk.done ?_
      exact ⟨⟨_, rfl⟩, [], trivial, ⟨⟨rfl, rfl, rfl, rfl, trivial⟩, ⟨rfl, trivial⟩, rfl, rfl⟩⟩
    · refine COk.seqQ fun Q139 qn139 qx139 qr139 => ?_
      refine gor hn ?_
      refine qn139 _ _ ?_
      obtain ⟨o7, h6, h2⟩ := bindM h2
      refine COk.joinR (ι := { s : Bool // o7 = s }) (fun s => [(1, .int a1), (2, .ptr 2 0), (8, .int a0.op), (9, .bool s.1)]) (fun s => [(2, .box (eIns a0) 81)]) (fun Q140 qn140 qx140 qr140 => ?_) (by intro s; rw [hn]; rfl) ?_
      · refine goc hn ?_
        refine bselM h6 (fun hb8 h6 => ?_) (fun hb8 h6 => ?_)
        · refine gok hn ?_
          refine qn140 _ _ ?_
          obtain rfl := Option.some.inj h6
          refine EOk.done ?_
          exact ⟨⟨_, rfl⟩, [], trivial, ⟨⟨rfl, rfl, rfl, rfl, trivial⟩, ⟨rfl, trivial⟩, rfl, rfl⟩⟩
        · refine gor hn ?_
          refine qn140 _ _ ?_
          obtain rfl := Option.some.inj h6
          refine EOk.done ?_
          exact ⟨⟨_, rfl⟩, [], trivial, ⟨⟨rfl, rfl, rfl, rfl, trivial⟩, ⟨rfl, trivial⟩, rfl, rfl⟩⟩
      rintro ⟨v5, hv_⟩
      replace hv_ := hv_.symm
      subst hv_
      refine qn138 _ _ ?_
      obtain rfl := Option.some.inj h2
      refine EOk.done ?_
      exact ⟨⟨_, rfl⟩, [], trivial, ⟨⟨rfl, rfl, rfl, rfl, trivial⟩, ⟨rfl, trivial⟩, rfl, rfl⟩⟩
  rintro ⟨v1, hv_⟩
  replace hv_ := hv_.symm
  subst hv_
  refine qn136 _ _ ?_
  refine goc hn ?_
  refine bselM h (fun hb9 h => ?_) (fun hb9 h => ?_)
  · refine COk.seqQ fun Q141 qn141 qx141 qr141 => ?_
    refine gor hn ?_
    refine Or.inr ?_
    refine Exists.intro (List.map eInt [(wr (a1 + (1 : Int)))]) (And.intro (by repeat (first | exact trivial | exact rfl | (refine And.intro ?_ ?_))) ?_)
    refine qn141 _ _ ?_
    refine got hn ?_
    refine qr135 _ _ ?_
    refine qr78 _ _ ?_
    obtain rfl := Option.some.inj h
    exact ⟨[(0, 15)], _, rfl, (by repeat (first | exact trivial | exact rfl | (refine And.intro ?_ ?_))), ⟨rfl, trivial⟩, rfl, rfl, rfl, rfl, rfl⟩
  · refine COk.seqQ fun Q142 qn142 qx142 qr142 => ?_
    refine gor hn ?_
    refine qn142 _ _ ?_
    refine goc hn ?_
    refine bselM h (fun hb10 h => ?_) (fun hb10 h => ?_)
    · refine COk.seqQ fun Q143 qn143 qx143 qr143 => ?_
      refine gor hn ?_
      refine Or.inr ?_
      refine Exists.intro (List.map eInt [(wr (a1 + (1 : Int)))]) (And.intro (by repeat (first | exact trivial | exact rfl | (refine And.intro ?_ ?_))) ?_)
      refine qn143 _ _ ?_
      refine got hn ?_
      refine qr135 _ _ ?_
      refine qr78 _ _ ?_
      obtain rfl := Option.some.inj h
      exact ⟨[(0, 20)], _, rfl, (by repeat (first | exact trivial | exact rfl | (refine And.intro ?_ ?_))), ⟨rfl, trivial⟩, rfl, rfl, rfl, rfl, rfl⟩
    · refine COk.seqQ fun Q144 qn144 qx144 qr144 => ?_
      refine gor hn ?_
      refine qn144 _ _ ?_
      refine goc hn ?_
      refine bselM h (fun hb11 h => ?_) (fun hb11 h => ?_)
      · refine COk.seqQ fun Q145 qn145 qx145 qr145 => ?_
        refine god hn (by kernel_rfl) ?_
        refine Or.inr ?_
        obtain ⟨hg12, h⟩ := guardM h
        refine decM hg12 ?_
        refine Or.inr ?_
        refine Exists.intro (List.map eInt [(wr (a1 + (1 : Int)))]) (And.intro (by repeat (first | exact trivial | exact rfl | (refine And.intro ?_ ?_))) ?_)
        refine qn145 _ _ ?_
        refine got hn ?_
        refine qr135 _ _ ?_
        refine qr78 _ _ ?_
        obtain rfl := Option.some.inj h
        exact ⟨[(0, 31)], _, rfl, (by repeat (first | exact trivial | exact rfl | (refine And.intro ?_ ?_))), ⟨rfl, trivial⟩, rfl, rfl, rfl, rfl, rfl⟩
      · refine COk.seqQ fun Q146 qn146 qx146 qr146 => ?_
        refine gor hn ?_
        refine qn146 _ _ ?_
        refine goc hn ?_
        refine bselM h (fun hb13 h => ?_) (fun hb13 h => ?_)
        · refine COk.seqQ fun Q147 qn147 qx147 qr147 => ?_
          refine god hn (by kernel_rfl) ?_
          refine Exists.intro (List.map eInt [a0.a]) (And.intro (by repeat (first | exact trivial | exact rfl | (refine And.intro ?_ ?_))) ?_)
          refine qn147 _ _ ?_
          refine got hn ?_
          refine qr135 _ _ ?_
          refine qr78 _ _ ?_
          obtain rfl := Option.some.inj h
          exact ⟨[(0, 36)], _, rfl, (by repeat (first | exact trivial | exact rfl | (refine And.intro ?_ ?_))), ⟨rfl, trivial⟩, rfl, rfl, rfl, rfl, rfl⟩
        · refine COk.seqQ fun Q148 qn148 qx148 qr148 => ?_
          refine gor hn ?_
          refine qn148 _ _ ?_
          refine goc hn ?_
          refine bselM h (fun hb14 h => ?_) (fun hb14 h => ?_)
          · refine COk.seqQ fun Q149 qn149 qx149 qr149 => ?_
            refine god hn (by kernel_rfl) ?_
            refine Or.inr ?_
            refine Exists.intro (List.map eInt [(wr (a1 + (1 : Int))), a0.a]) (And.intro (by repeat (first | exact trivial | exact rfl | (refine And.intro ?_ ?_))) ?_)
            refine qn149 _ _ ?_
            refine got hn ?_
            refine qr135 _ _ ?_
            refine qr78 _ _ ?_
            obtain rfl := Option.some.inj h
            exact ⟨[(0, 43)], _, rfl, (by repeat (first | exact trivial | exact rfl | (refine And.intro ?_ ?_))), ⟨rfl, trivial⟩, rfl, rfl, rfl, rfl, rfl⟩
          · refine COk.seqQ fun Q150 qn150 qx150 qr150 => ?_
            refine gor hn ?_
            refine qn150 _ _ ?_
            refine goc hn ?_
            refine bselM h (fun hb15 h => ?_) (fun hb15 h => ?_)
            · refine COk.seqQ fun Q151 qn151 qx151 qr151 => ?_
              refine gor hn ?_
              refine qn151 _ _ ?_
              refine COk.nilrow 6 206 1 3 rfl rfl rfl ?_
              refine got hn ?_
              refine qr135 _ _ ?_
              refine qr78 _ _ ?_
              obtain rfl := Option.some.inj h
              exact ⟨[(0, 206)], _, rfl, (by repeat (first | exact trivial | exact rfl | (refine And.intro ?_ ?_))), ⟨rfl, trivial⟩, rfl, rfl, rfl, rfl, rfl⟩
            · refine gok hn ?_
              refine qn135 _ _ ?_
              refine qn78 _ _ ?_
              refine COk.seqQ fun Q152 qn152 qx152 qr152 => ?_
              refine gor hn ?_
              refine Or.inr ?_
              refine Exists.intro (List.map eInt [(wr (a1 + (1 : Int)))]) (And.intro (by repeat (first | exact trivial | exact rfl | (refine And.intro ?_ ?_))) ?_)
              refine qn152 _ _ ?_
              refine got hn ?_
              obtain rfl := Option.some.inj h
              exact ⟨[(0, 48)], _, rfl, (by repeat (first | exact trivial | exact rfl | (refine And.intro ?_ ?_))), ⟨rfl, trivial⟩, rfl, rfl, rfl, rfl, rfl⟩

/- class.Name -/
set_option maxRecDepth 100000 in
set_option maxHeartbeats 1000000 in
theorem class_Name_ok (N : Nat) (a0 : ByteArray) (r : Bool) (h : class_Name N a0 = some r) : Spec Try.prog 72 [] [.str a0] (.bool r) [] [] := by
  refine Spec.of tabOk Try.func72 rfl Try.ntmps72 (by kernel_rfl) rfl rfl rfl fun Γ hn => ?_
  unfold class_Name at h
  refine COk.seqQ fun Q51 qn51 qx51 qr51 => ?_
  refine gor hn ?_
  refine qn51 _ _ ?_
  refine COk.seqQ fun Q52 qn52 qx52 qr52 => ?_
  refine COk.seqQ fun Q53 qn53 qx53 qr53 => ?_
  obtain ⟨o3, h2, h⟩ := bindM h
  refine COk.joinR (ι := { s : Bool // o3 = s }) (fun s => [(0, .str a0), (11, .bool s.1)]) (fun s => []) (fun Q54 qn54 qx54 qr54 => ?_) (by intro s; rw [hn]; rfl) ?_
  · refine gor hn ?_
    intro hl4
    refine bselM h2 (fun hb5 h2 => ?_) (fun hb5 h2 => ?_)
    · refine bselT hb5 ?_
      refine bselT hb5 ?_
      refine bselT hb5 ?_
      refine qn54 _ _ ?_
      obtain rfl := Option.some.inj h2
      refine EOk.done ?_
      exact ⟨⟨_, rfl⟩, [], trivial, ⟨⟨rfl, rfl, trivial⟩, trivial, rfl, rfl⟩⟩
    · refine bselF hb5 ?_
      intro hl6
      refine bselF hb5 ?_
      refine bselF hb5 ?_
      refine qn54 _ _ ?_
      obtain rfl := Option.some.inj h2
      refine EOk.done ?_
      exact ⟨⟨_, rfl⟩, [], trivial, ⟨⟨rfl, rfl, trivial⟩, trivial, rfl, rfl⟩⟩
  rintro ⟨v1, hv_⟩
  replace hv_ := hv_.symm
  subst hv_
  refine qn53 _ _ ?_
  refine goc hn ?_
  refine bselM h (fun hb7 h => ?_) (fun hb7 h => ?_)
  · refine COk.seqQ fun Q56 qn56 qx56 qr56 => ?_
    refine gor hn ?_
    refine qn56 _ _ ?_
    refine got hn ?_
    refine qr52 _ _ ?_
    obtain rfl := Option.some.inj h
    exact ⟨[], _, rfl, (by repeat (first | exact trivial | exact rfl | (refine And.intro ?_ ?_))), trivial, rfl, rfl, rfl, rfl, rfl⟩
  · refine gok hn ?_
    refine qn52 _ _ ?_
    refine COk.seqQ fun Q57 qn57 qx57 qr57 => ?_
    refine COk.seqQ fun Q58 qn58 qx58 qr58 => ?_
    refine gor hn ?_
    intro hl8
    refine qn58 _ _ ?_
    refine COk.rng 13 rfl (fun hrn => ?_)
    obtain ⟨o10, h11, h⟩ := bindM h
    refine COk.joinR (ι := { s : Unit // o10 = Ctl.next s }) (fun s => []) (fun s => []) (fun Q81 qn81 qx81 qr81 => ?_) (by intro s; rw [hn]; rfl) ?_
    · refine COk.blkQ fun Q82 qn82 qe82 qx82 qr82 => ?_
      refine COk.loopQ (ι := { q : (Nat × Nat) // q.1 = ((a0.size : Int) - (q.2 : Int)).toNat ∧ class_Name_l1 N a0 q.1 q.2 = some o10 }) (fun q => [(0, .str a0), (13, .int (a0.size : Int)), (14, .int (q.1.2 : Int))]) (fun q => []) (fun q => q.1.1) ⟨(((a0.size : Int) - ((0 : Nat) : Int)).toNat, 0), rfl, h11⟩ [] ⟨⟨rfl, rfl, rfl, trivial⟩, trivial, rfl, rfl⟩ (by intro q; rw [hn]; rfl) ?_
      rintro ⟨⟨n_, k9⟩, hd13, h11⟩ Q83 qn83 qx83 qr83
      replace hd13 : n_ = ((a0.size : Int) - (k9 : Int)).toNat := hd13
      rcases n_ with _ | n14
      · have hlt17 := upNil hd13
        replace h11 := (class_Name_l1.eq_1 _ _ _).symm.trans h11
        refine COk.seqQ fun Q84 qn84 qx84 qr84 => ?_
        refine gor hn ?_
        refine qn84 _ _ ?_
        refine COk.seqQ fun Q85 qn85 qx85 qr85 => ?_
        refine goc hn ?_
        refine bselF hlt17 ?_
        refine goe hn ?_
        refine qx85 _ _ _ ?_
        refine qx83 _ _ _ ?_
        refine qe82 _ _ ?_
        refine qn81 _ _ ?_
        obtain rfl := Option.some.inj h11
        refine EOk.done ?_
        exact ⟨⟨_, rfl⟩, [], trivial, ⟨trivial, trivial, rfl, rfl⟩⟩
      · obtain ⟨hd2, hlt17⟩ := upCons hd13
        replace h11 := (class_Name_l1.eq_2 _ _ _ _).symm.trans h11
        refine COk.seqQ fun Q86 qn86 qx86 qr86 => ?_
        refine gor hn ?_
        refine qn86 _ _ ?_
        refine COk.seqQ fun Q87 qn87 qx87 qr87 => ?_
        refine goc hn ?_
        refine bselT hlt17 ?_
        refine gok hn ?_
        refine qn87 _ _ ?_
        refine COk.seqQ fun Q88 qn88 qx88 qr88 => ?_
        refine COk.blkQ fun Q95 qn95 qe95 qx95 qr95 => ?_
        refine COk.seqQ fun Q96 qn96 qx96 qr96 => ?_
        refine gor hn ?_
        refine qn96 _ _ ?_
        refine COk.seqQ fun Q97 qn97 qx97 qr97 => ?_
        obtain ⟨o20, h19, h11⟩ := bindM h11
        refine COk.joinR (ι := { s : Bool // o20 = s }) (fun s => [(0, .str a0), (13, .int (a0.size : Int)), (14, .int (k9 : Int)), (26, .bool s.1)]) (fun s => []) (fun Q98 qn98 qx98 qr98 => ?_) (by intro s; rw [hn]; rfl) ?_
        · refine gor hn ?_
          obtain ⟨u21, hx22, h19⟩ := bindM h19
          refine byM hx22 ?_
          refine And.intro rfl ?_
          refine bselM h19 (fun hb23 h19 => ?_) (fun hb23 h19 => ?_)
          · refine bselT hb23 ?_
            refine bselT hb23 ?_
            refine bselT hb23 ?_
            refine bselT hb23 ?_
            refine qn98 _ _ ?_
            obtain rfl := Option.some.inj h19
            refine EOk.done ?_
            exact ⟨⟨_, rfl⟩, [], trivial, ⟨⟨rfl, rfl, rfl, rfl, trivial⟩, trivial, rfl, rfl⟩⟩
          · refine bselF hb23 ?_
            refine bselF hb23 ?_
            obtain ⟨u24, hx25, h19⟩ := bindM h19
            refine byM hx25 ?_
            refine bselF hb23 ?_
            refine And.intro rfl ?_
            refine bselF hb23 ?_
            refine qn98 _ _ ?_
            obtain rfl := Option.some.inj h19
            refine EOk.done ?_
            exact ⟨⟨_, rfl⟩, [], trivial, ⟨⟨rfl, rfl, rfl, rfl, trivial⟩, trivial, rfl, rfl⟩⟩
        rintro ⟨v18, hv_⟩
        replace hv_ := hv_.symm
        subst hv_
        refine qn97 _ _ ?_
        refine goc hn ?_
        refine bselM h11 (fun hb26 h11 => ?_) (fun hb26 h11 => ?_)
        · refine COk.seqQ fun Q99 qn99 qx99 qr99 => ?_
          refine gor hn ?_
          refine qn99 _ _ ?_
          refine got hn ?_
          refine qr95 _ _ ?_
          refine qr88 _ _ ?_
          refine qr83 _ _ ?_
          refine qr82 _ _ ?_
          refine qr81 _ _ ?_
          refine qr57 _ _ ?_
          obtain rfl := Option.some.inj h11
          obtain rfl := Option.some.inj h
          exact ⟨[], _, rfl, (by repeat (first | exact trivial | exact rfl | (refine And.intro ?_ ?_))), trivial, rfl, rfl, rfl, rfl, rfl⟩
        · refine gok hn ?_
          refine qn95 _ _ ?_
          refine qn88 _ _ ?_
          refine gor hn ?_
          refine Or.inl (And.intro (inrU hlt17 hrn) ?_)
          refine qn83 _ _ ?_
          refine EOk.done ?_
          exact ⟨⟨(n14, k9 + 1), hd2, h11⟩, [], by show n14 < n14 + 1; omega, ⟨⟨rfl, rfl, rfl, trivial⟩, trivial, rfl, rfl⟩⟩
    rintro ⟨⟨⟩, rfl⟩
    refine qn57 _ _ ?_
    refine COk.seqQ fun Q100 qn100 qx100 qr100 => ?_
    refine gor hn ?_
    refine qn100 _ _ ?_
    refine got hn ?_
    obtain rfl := Option.some.inj h
    exact ⟨[], _, rfl, (by repeat (first | exact trivial | exact rfl | (refine And.intro ?_ ?_))), trivial, rfl, rfl, rfl, rfl, rfl⟩

/- code.numbers$1 -/
set_option maxRecDepth 100000 in
set_option maxHeartbeats 1000000 in
theorem code_numbers_1_ok (N : Nat) (a0 : Int) (a1 : Int) (r : Bool) (h : code_numbers_1 N a0 a1 = some r) : Spec Try.prog 79 [] [.int a0, .int a1] (.bool r) [] [] := by
  refine Spec.of tabOk Try.func79 rfl Try.ntmps79 (by kernel_rfl) rfl rfl rfl fun Γ hn => ?_
  unfold code_numbers_1 at h
  refine COk.seqQ fun Q4 qn4 qx4 qr4 => ?_
  refine gor hn ?_
  refine qn4 _ _ ?_
  refine COk.seqQ fun Q5 qn5 qx5 qr5 => ?_
  obtain ⟨o3, h2, h⟩ := bindM h
  refine COk.joinR (ι := { s : Bool // o3 = s }) (fun s => [(4, .bool s.1)]) (fun s => []) (fun Q6 qn6 qx6 qr6 => ?_) (by intro s; rw [hn]; rfl) ?_
  · refine gor hn ?_
    refine bselM h2 (fun hb4 h2 => ?_) (fun hb4 h2 => ?_)
    · refine bselT hb4 ?_
      refine bselT hb4 ?_
      refine bselT hb4 ?_
      refine qn6 _ _ ?_
      obtain rfl := Option.some.inj h2
      refine EOk.done ?_
      exact ⟨⟨_, rfl⟩, [], trivial, ⟨⟨rfl, trivial⟩, trivial, rfl, rfl⟩⟩
    · refine bselF hb4 ?_
      refine bselF hb4 ?_
      refine bselF hb4 ?_
      refine qn6 _ _ ?_
      obtain rfl := Option.some.inj h2
      refine EOk.done ?_
      exact ⟨⟨_, rfl⟩, [], trivial, ⟨⟨rfl, trivial⟩, trivial, rfl, rfl⟩⟩
  rintro ⟨v1, hv_⟩
  replace hv_ := hv_.symm
  subst hv_
  refine qn5 _ _ ?_
  refine got hn ?_
  obtain rfl := Option.some.inj h
  exact ⟨[], _, rfl, (by repeat (first | exact trivial | exact rfl | (refine And.intro ?_ ?_))), trivial, rfl, rfl, rfl, rfl, rfl⟩

/- class.Slots -/
set_option maxRecDepth 100000 in
set_option maxHeartbeats 1000000 in
theorem class_Slots_ok (N : Nat) (a0 : Wd) (a1 : Int) (r : Int) (h : class_Slots N a0 a1 = some r) : Spec Try.prog 80 [] [.agg (eWd a0), .int a1] (.int r) [] [] := by
  refine Spec.of tabOk Try.func80 rfl Try.ntmps80 (by kernel_rfl) rfl rfl rfl fun Γ hn => ?_
  unfold class_Slots at h
  refine COk.seqQ fun Q41 qn41 qx41 qr41 => ?_
  refine gor hn ?_
  refine qn41 _ _ ?_
  refine COk.seqQ fun Q42 qn42 qx42 qr42 => ?_
  refine gor hn ?_
  refine qn42 _ _ ?_
  refine COk.seqQ fun Q43 qn43 qx43 qr43 => ?_
  refine COk.seqQ fun Q44 qn44 qx44 qr44 => ?_
  refine gor hn ?_
  refine qn44 _ _ ?_
  obtain ⟨o9, h10, h⟩ := bindM h
  refine COk.joinR (ι := { s : Int // o9 = s }) (fun s => [(5, .int s.1)]) (fun s => []) (fun Q69 qn69 qx69 qr69 => ?_) (by intro s; rw [hn]; rfl) ?_
  · refine COk.blkQ fun Q70 qn70 qe70 qx70 qr70 => ?_
    refine COk.loopQ (ι := { q : (Nat × Int × Int × Int) // class_Slots_l1 N a0 q.1 q.2.1 q.2.2.1 q.2.2.2 = some o9 }) (fun q => [(1, .int q.1.2.1), (2, .ptr 2 0), (5, .int q.1.2.2.1), (6, .int q.1.2.2.2)]) (fun q => [(2, .box (eWd a0) 55)]) (fun q => q.1.1) ⟨(N, a1, (0 : Int), (0 : Int)), h10⟩ [] ⟨⟨rfl, rfl, rfl, rfl, trivial⟩, ⟨rfl, trivial⟩, rfl, rfl⟩ (by intro q; rw [hn]; rfl) ?_
    rintro ⟨⟨n_, v2, v3, v4⟩, h10⟩ Q71 qn71 qx71 qr71
    rcases n_ with _ | n13
    · rw [class_Slots_l1.eq_1] at h10
      cases h10
    · replace h10 := (class_Slots_l1.eq_2 _ _ _ _ _ _).symm.trans h10
      refine COk.seqQ fun Q72 qn72 qx72 qr72 => ?_
      refine COk.seqQ fun Q73 qn73 qx73 qr73 => ?_
      obtain ⟨o16, h15, h10⟩ := bindM h10
      refine COk.joinR (ι := { s : Bool // o16 = s }) (fun s => [(1, .int v2), (2, .ptr 2 0), (5, .int v3), (6, .int v4), (22, .bool s.1)]) (fun s => [(2, .box (eWd a0) 55)]) (fun Q74 qn74 qx74 qr74 => ?_) (by intro s; rw [hn]; rfl) ?_
      · refine gor hn ?_
        refine bselM h15 (fun hb17 h15 => ?_) (fun hb17 h15 => ?_)
        · refine bselT hb17 ?_
          refine bselT hb17 ?_
          refine bselT hb17 ?_
          refine lenM (fun hl18 => ?_)
          refine bselT hb17 ?_
          refine bselT hb17 ?_
          refine bselM h15 (fun hb19 h15 => ?_) (fun hb19 h15 => ?_)
          · refine bselT hb19 ?_
            refine bselT hb19 ?_
            refine bselT hb19 ?_
            refine lenM (fun hl20 => ?_)
            refine bselT hb19 ?_
            refine bselT hb19 ?_
            refine qn74 _ _ ?_
            obtain rfl := Option.some.inj h15
            refine EOk.done ?_
            exact ⟨⟨_, rfl⟩, [], trivial, ⟨⟨rfl, rfl, rfl, rfl, rfl, trivial⟩, ⟨rfl, trivial⟩, rfl, rfl⟩⟩
          · refine bselF hb19 ?_
            refine bselF hb19 ?_
            refine bselF hb19 ?_
            refine bselF hb19 ?_
            refine bselF hb19 ?_
            refine qn74 _ _ ?_
            obtain rfl := Option.some.inj h15
            refine EOk.done ?_
            exact ⟨⟨_, rfl⟩, [], trivial, ⟨⟨rfl, rfl, rfl, rfl, rfl, trivial⟩, ⟨rfl, trivial⟩, rfl, rfl⟩⟩
        · refine bselF hb17 ?_
          refine bselF hb17 ?_
          refine bselF hb17 ?_
          refine bselF hb17 ?_
          refine bselF hb17 ?_
          refine qn74 _ _ ?_
          obtain rfl := Option.some.inj h15
          refine EOk.done ?_
          exact ⟨⟨_, rfl⟩, [], trivial, ⟨⟨rfl, rfl, rfl, rfl, rfl, trivial⟩, ⟨rfl, trivial⟩, rfl, rfl⟩⟩
      rintro ⟨v14, hv_⟩
      replace hv_ := hv_.symm
      subst hv_
      refine qn73 _ _ ?_
      refine goc hn ?_
      refine bselM h10 (fun hb21 h10 => ?_) (fun hb21 h10 => ?_)
      · refine gok hn ?_
        refine qn72 _ _ ?_
        refine COk.seqQ fun Q75 qn75 qx75 qr75 => ?_
        refine COk.blkQ fun Q78 qn78 qe78 qx78 qr78 => ?_
        refine COk.seqQ fun Q79 qn79 qx79 qr79 => ?_
        refine gor hn ?_
        obtain ⟨x22, hx23, h10⟩ := bindM h10
        refine idxM hx23 ?_
        refine Or.inr ?_
        refine qn79 _ _ ?_
        refine gor hn ?_
        obtain ⟨x24, hx25, h10⟩ := bindM h10
        refine idxM hx25 ?_
        refine qn78 _ _ ?_
        refine qn75 _ _ ?_
        refine COk.sub (ts2 := [(1, .int x24.super), (2, .ptr 2 0), (5, .int (wr (v3 + x22.slots))), (6, .int v4)]) (os2 := [(2, .box (eWd a0) 55)]) [] ⟨⟨rfl, rfl, rfl, rfl, trivial⟩, ⟨rfl, trivial⟩, rfl, rfl⟩ (by rw [hn]; rfl) ?_
        refine gor hn ?_
        refine Or.inr ?_
        refine qn71 _ _ ?_
        refine EOk.done ?_
        exact ⟨⟨(n13, x24.super, (wr (v3 + x22.slots)), (wr (v4 + (1 : Int)))), h10⟩, [], by show n13 < n13 + 1; omega, ⟨⟨rfl, rfl, rfl, rfl, trivial⟩, ⟨rfl, trivial⟩, rfl, rfl⟩⟩
      · refine goe hn ?_
        refine qx72 _ _ _ ?_
        refine qx71 _ _ _ ?_
        refine qe70 _ _ ?_
        refine qn69 _ _ ?_
        obtain rfl := Option.some.inj h10
        refine EOk.done ?_
        exact ⟨⟨_, rfl⟩, [], trivial, ⟨⟨rfl, trivial⟩, trivial, rfl, rfl⟩⟩
  rintro ⟨v8, hv_⟩
  replace hv_ := hv_.symm
  subst hv_
  refine qn43 _ _ ?_
  refine COk.seqQ fun Q80 qn80 qx80 qr80 => ?_
  refine gor hn ?_
  refine qn80 _ _ ?_
  refine got hn ?_
  obtain rfl := Option.some.inj h
  exact ⟨[], _, rfl, (by repeat (first | exact trivial | exact rfl | (refine And.intro ?_ ?_))), trivial, rfl, rfl, rfl, rfl, rfl⟩

/- code.numbers -/
set_option maxRecDepth 100000 in
set_option maxHeartbeats 1000000 in
theorem code_numbers_ok (N : Nat) (a0 : Wd) (a1 : Int) (a2 : Me) (a3 : Ins) (r : Int) (h : code_numbers N a0 a1 a2 a3 = some r) : Spec Try.prog 73 [] [.fp (eWd a0), .int a1, .fp (eMe a2), .agg (eIns a3)] (.int r) [] [] := by
  refine Spec.of tabOk Try.func73 rfl Try.ntmps73 (by kernel_rfl) rfl rfl rfl fun Γ hn => ?_
  unfold code_numbers at h
  refine COk.seqQ fun Q1203 qn1203 qx1203 qr1203 => ?_
  refine gor hn ?_
  refine qn1203 _ _ ?_
  refine COk.seqQ fun Q1204 qn1204 qx1204 qr1204 => ?_
  refine gor hn ?_
  refine qn1204 _ _ ?_
  refine COk.seqQ fun Q1205 qn1205 qx1205 qr1205 => ?_
  refine gor hn ?_
  refine qn1205 _ _ ?_
  refine COk.seqQ fun Q1206 qn1206 qx1206 qr1206 => ?_
  refine COk.seqQ fun Q1207 qn1207 qx1207 qr1207 => ?_
  refine gor hn ?_
  refine qn1207 _ _ ?_
  refine COk.blkQ fun Q2349 qn2349 qe2349 qx2349 qr2349 => ?_
  refine COk.seqQ fun Q2350 qn2350 qx2350 qr2350 => ?_
  refine COk.seqQ fun Q2351 qn2351 qx2351 qr2351 => ?_
  refine gor hn ?_
  refine qn2351 _ _ ?_
  obtain ⟨o3, h2, h⟩ := bindM h
  refine COk.joinR (ι := { s : Bool // o3 = s }) (fun s => [(0, .fp (eWd a0)), (1, .int a1), (2, .fp (eMe a2)), (7, .ptr 7 0), (9, .fn 79 []), (11, .bool false), (13, .int a3.op), (14, .bool s.1)]) (fun s => [(7, .box (eIns a3) 81)]) (fun Q2352 qn2352 qx2352 qr2352 => ?_) (by intro s; rw [hn]; rfl) ?_
  · refine goc hn ?_
    refine bselM h2 (fun hb4 h2 => ?_) (fun hb4 h2 => ?_)
    · refine gok hn ?_
      refine qn2352 _ _ ?_
      obtain rfl := Option.some.inj h2
      refine EOk.done ?_
      exact ⟨⟨_, rfl⟩, [], trivial, ⟨⟨(by repeat (first | exact trivial | exact rfl | (refine And.intro ?_ ?_))), rfl, (by repeat (first | exact trivial | exact rfl | (refine And.intro ?_ ?_))), rfl, (by repeat (first | exact trivial | exact rfl | (refine And.intro ?_ ?_))), rfl, rfl, rfl, trivial⟩, ⟨rfl, trivial⟩, rfl, rfl⟩⟩
    · refine COk.seqQ fun Q2353 qn2353 qx2353 qr2353 => ?_
      refine gor hn ?_
      refine qn2353 _ _ ?_
      obtain ⟨o7, h6, h2⟩ := bindM h2
      refine COk.joinR (ι := { s : Bool // o7 = s }) (fun s => [(0, .fp (eWd a0)), (1, .int a1), (2, .fp (eMe a2)), (7, .ptr 7 0), (9, .fn 79 []), (11, .bool false), (13, .int a3.op), (14, .bool s.1)]) (fun s => [(7, .box (eIns a3) 81)]) (fun Q2354 qn2354 qx2354 qr2354 => ?_) (by intro s; rw [hn]; rfl) ?_
      · refine goc hn ?_
        refine bselM h6 (fun hb8 h6 => ?_) (fun hb8 h6 => ?_)
        · refine gok hn ?_
          refine qn2354 _ _ ?_
          obtain rfl := Option.some.inj h6
          refine EOk.done ?_
          exact ⟨⟨_, rfl⟩, [], trivial, ⟨⟨(by repeat (first | exact trivial | exact rfl | (refine And.intro ?_ ?_))), rfl, (by repeat (first | exact trivial | exact rfl | (refine And.intro ?_ ?_))), rfl, (by repeat (first | exact trivial | exact rfl | (refine And.intro ?_ ?_))), rfl, rfl, rfl, trivial⟩, ⟨rfl, trivial⟩, rfl, rfl⟩⟩
        · refine COk.seqQ fun Q2355 qn2355 qx2355 qr2355 => ?_
          refine gor hn ?_
          refine qn2355 _ _ ?_
          obtain ⟨o11, h10, h6⟩ := bindM h6
          refine COk.joinR (ι := { s : Bool // o11 = s }) (fun s => [(0, .fp (eWd a0)), (1, .int a1), (2, .fp (eMe a2)), (7, .ptr 7 0), (9, .fn 79 []), (11, .bool false), (13, .int a3.op), (14, .bool s.1)]) (fun s => [(7, .box (eIns a3) 81)]) (fun Q2356 qn2356 qx2356 qr2356 => ?_) (by intro s; rw [hn]; rfl) ?_
          · refine goc hn ?_
            refine bselM h10 (fun hb12 h10 => ?_) (fun hb12 h10 => ?_)
            · refine gok hn ?_
              refine qn2356 _ _ ?_
              obtain rfl := Option.some.inj h10
              refine EOk.done ?_
              exact ⟨⟨_, rfl⟩, [], trivial, ⟨⟨(by repeat (first | exact trivial | exact rfl | (refine And.intro ?_ ?_))), rfl, (by repeat (first | exact trivial | exact rfl | (refine And.intro ?_ ?_))), rfl, (by repeat (first | exact trivial | exact rfl | (refine And.intro ?_ ?_))), rfl, rfl, rfl, trivial⟩, ⟨rfl, trivial⟩, rfl, rfl⟩⟩
            · refine COk.seqQ fun Q2357 qn2357 qx2357 qr2357 => ?_
              refine gor hn ?_
              refine qn2357 _ _ ?_
              obtain ⟨o15, h14, h10⟩ := bindM h10
              refine COk.joinR (ι := { s : Bool // o15 = s }) (fun s => [(0, .fp (eWd a0)), (1, .int a1), (2, .fp (eMe a2)), (7, .ptr 7 0), (9, .fn 79 []), (11, .bool false), (13, .int a3.op), (14, .bool s.1)]) (fun s => [(7, .box (eIns a3) 81)]) (fun Q2358 qn2358 qx2358 qr2358 => ?_) (by intro s; rw [hn]; rfl) ?_
              · refine goc hn ?_
                refine bselM h14 (fun hb16 h14 => ?_) (fun hb16 h14 => ?_)
                · refine gok hn ?_
                  refine qn2358 _ _ ?_
                  obtain rfl := Option.some.inj h14
                  refine EOk.done ?_
                  exact ⟨⟨_, rfl⟩, [], trivial, ⟨⟨(by repeat (first | exact trivial | exact rfl | (refine And.intro ?_ ?_))), rfl, (by repeat (first | exact trivial | exact rfl | (refine And.intro ?_ ?_))), rfl, (by repeat (first | exact trivial | exact rfl | (refine And.intro ?_ ?_))), rfl, rfl, rfl, trivial⟩, ⟨rfl, trivial⟩, rfl, rfl⟩⟩
                · refine COk.seqQ fun Q2359 qn2359 qx2359 qr2359 => ?_
                  refine gor hn ?_
                  refine qn2359 _ _ ?_
                  obtain ⟨o19, h18, h14⟩ := bindM h14
                  refine COk.joinR (ι := { s : Bool // o19 = s }) (fun s => [(0, .fp (eWd a0)), (1, .int a1), (2, .fp (eMe a2)), (7, .ptr 7 0), (9, .fn 79 []), (11, .bool false), (13, .int a3.op), (14, .bool s.1)]) (fun s => [(7, .box (eIns a3) 81)]) (fun Q2360 qn2360 qx2360 qr2360 => ?_) (by intro s; rw [hn]; rfl) ?_
                  · refine goc hn ?_
                    refine bselM h18 (fun hb20 h18 => ?_) (fun hb20 h18 => ?_)
                    · refine gok hn ?_
                      refine qn2360 _ _ ?_
                      obtain rfl := Option.some.inj h18
                      refine EOk.done ?_
                      exact ⟨⟨_, rfl⟩, [], trivial, ⟨⟨(by repeat (first | exact trivial | exact rfl | (refine And.intro ?_ ?_))), rfl, (by repeat (first | exact trivial | exact rfl | (refine And.intro ?_ ?_))), rfl, (by repeat (first | exact trivial | exact rfl | (refine And.intro ?_ ?_))), rfl, rfl, rfl, trivial⟩, ⟨rfl, trivial⟩, rfl, rfl⟩⟩
                    · refine COk.seqQ fun Q2361 qn2361 qx2361 qr2361 => ?_
                      refine COk.sub (ts2 := [(0, .fp (eWd a0)), (1, .int a1), (2, .fp (eMe a2)), (7, .ptr 7 0), (9, .fn 79 []), (11, .bool false), (13, .int a3.op)]) (os2 := [(7, .box (eIns a3) 81)]) [] ⟨⟨(by repeat (first | exact trivial | exact rfl | (refine And.intro ?_ ?_))), rfl, (by repeat (first | exact trivial | exact rfl | (refine And.intro ?_ ?_))), rfl, (by repeat (first | exact trivial | exact rfl | (refine And.intro ?_ ?_))), rfl, rfl, trivial⟩, ⟨rfl, trivial⟩, rfl, rfl⟩ (by rw [hn]; rfl) ?_
                      refine gor hn ?_
                      refine qn2361 _ _ ?_
                      obtain ⟨o23, h22, h18⟩ := bindM h18
                      refine COk.joinR (ι := { s : Bool // o23 = s }) (fun s => [(0, .fp (eWd a0)), (1, .int a1), (2, .fp (eMe a2)), (7, .ptr 7 0), (9, .fn 79 []), (11, .bool false), (13, .int a3.op), (14, .bool s.1)]) (fun s => [(7, .box (eIns a3) 81)]) (fun Q2362 qn2362 qx2362 qr2362 => ?_) (by intro s; rw [hn]; rfl) ?_
                      · refine goc hn ?_
                        refine bselM h22 (fun hb24 h22 => ?_) (fun hb24 h22 => ?_)
                        · refine gok hn ?_
                          refine qn2362 _ _ ?_
                          obtain rfl := Option.some.inj h22
                          refine EOk.done ?_
                          exact ⟨⟨_, rfl⟩, [], trivial, ⟨⟨(by repeat (first | exact trivial | exact rfl | (refine And.intro ?_ ?_))), rfl, (by repeat (first | exact trivial | exact rfl | (refine And.intro ?_ ?_))), rfl, (by repeat (first | exact trivial | exact rfl | (refine And.intro ?_ ?_))), rfl, rfl, rfl, trivial⟩, ⟨rfl, trivial⟩, rfl, rfl⟩⟩
                        · refine gor hn ?_
                          refine qn2362 _ _ ?_
                          obtain rfl := Option.some.inj h22
                          refine EOk.done ?_
                          exact ⟨⟨_, rfl⟩, [], trivial, ⟨⟨(by repeat (first | exact trivial | exact rfl | (refine And.intro ?_ ?_))), rfl, (by repeat (first | exact trivial | exact rfl | (refine And.intro ?_ ?_))), rfl, (by repeat (first | exact trivial | exact rfl | (refine And.intro ?_ ?_))), rfl, rfl, rfl, trivial⟩, ⟨rfl, trivial⟩, rfl, rfl⟩⟩
                      rintro ⟨v21, hv_⟩
                      replace hv_ := hv_.symm
                      subst hv_
                      refine qn2360 _ _ ?_
                      obtain rfl := Option.some.inj h18
                      refine EOk.done ?_
                      exact ⟨⟨_, rfl⟩, [], trivial, ⟨⟨(by repeat (first | exact trivial | exact rfl | (refine And.intro ?_ ?_))), rfl, (by repeat (first | exact trivial | exact rfl | (refine And.intro ?_ ?_))), rfl, (by repeat (first | exact trivial | exact rfl | (refine And.intro ?_ ?_))), rfl, rfl, rfl, trivial⟩, ⟨rfl, trivial⟩, rfl, rfl⟩⟩
                  rintro ⟨v17, hv_⟩
                  replace hv_ := hv_.symm
                  subst hv_
                  refine qn2358 _ _ ?_
                  obtain rfl := Option.some.inj h14
                  refine EOk.done ?_
                  exact ⟨⟨_, rfl⟩, [], trivial, ⟨⟨(by repeat (first | exact trivial | exact rfl | (refine And.intro ?_ ?_))), rfl, (by repeat (first | exact trivial | exact rfl | (refine And.intro ?_ ?_))), rfl, (by repeat (first | exact trivial | exact rfl | (refine And.intro ?_ ?_))), rfl, rfl, rfl, trivial⟩, ⟨rfl, trivial⟩, rfl, rfl⟩⟩
              rintro ⟨v13, hv_⟩
              replace hv_ := hv_.symm
              subst hv_
              refine qn2356 _ _ ?_
              obtain rfl := Option.some.inj h10
              refine EOk.done ?_
              exact ⟨⟨_, rfl⟩, [], trivial, ⟨⟨(by repeat (first | exact trivial | exact rfl | (refine And.intro ?_ ?_))), rfl, (by repeat (first | exact trivial | exact rfl | (refine And.intro ?_ ?_))), rfl, (by repeat (first | exact trivial | exact rfl | (refine And.intro ?_ ?_))), rfl, rfl, rfl, trivial⟩, ⟨rfl, trivial⟩, rfl, rfl⟩⟩
          rintro ⟨v9, hv_⟩
          replace hv_ := hv_.symm
          subst hv_
          refine qn2354 _ _ ?_
          obtain rfl := Option.some.inj h6
          refine EOk.done ?_
          exact ⟨⟨_, rfl⟩, [], trivial, ⟨⟨(by repeat (first | exact trivial | exact rfl | (refine And.intro ?_ ?_))), rfl, (by repeat (first | exact trivial | exact rfl | (refine And.intro ?_ ?_))), rfl, (by repeat (first | exact trivial | exact rfl | (refine And.intro ?_ ?_))), rfl, rfl, rfl, trivial⟩, ⟨rfl, trivial⟩, rfl, rfl⟩⟩
      rintro ⟨v5, hv_⟩
      replace hv_ := hv_.symm
      subst hv_
      refine qn2352 _ _ ?_
      obtain rfl := Option.some.inj h2
      refine EOk.done ?_
      exact ⟨⟨_, rfl⟩, [], trivial, ⟨⟨(by repeat (first | exact trivial | exact rfl | (refine And.intro ?_ ?_))), rfl, (by repeat (first | exact trivial | exact rfl | (refine And.intro ?_ ?_))), rfl, (by repeat (first | exact trivial | exact rfl | (refine And.intro ?_ ?_))), rfl, rfl, rfl, trivial⟩, ⟨rfl, trivial⟩, rfl, rfl⟩⟩
  rintro ⟨v1, hv_⟩
  replace hv_ := hv_.symm
  subst hv_
  refine qn2350 _ _ ?_
  obtain ⟨o28, h27, h⟩ := bindM h
  refine COk.joinR (ι := { s : (Bool × Bool) // o28 = Ctl.next s }) (fun s => [(7, .ptr 7 0), (10, .bool s.1.1), (11, .bool s.1.2)]) (fun s => [(7, .box (eIns a3) 81)]) (fun Q2363 qn2363 qx2363 qr2363 => ?_) (by intro s; rw [hn]; rfl) ?_
  · refine goc hn ?_
    refine bselM h27 (fun hb29 h27 => ?_) (fun hb29 h27 => ?_)
    · refine gor hn ?_
      refine qn2363 _ _ ?_
      obtain rfl := Option.some.inj h27
      refine EOk.done ?_
      exact ⟨⟨_, rfl⟩, [], trivial, ⟨⟨rfl, rfl, rfl, trivial⟩, ⟨rfl, trivial⟩, rfl, rfl⟩⟩
    · refine COk.seqQ fun Q2364 qn2364 qx2364 qr2364 => ?_
      refine gor hn ?_
      refine qn2364 _ _ ?_
      obtain ⟨o33, h32, h27⟩ := bindM h27
      refine COk.joinR (ι := { s : (Bool × Bool) // o33 = Ctl.next s }) (fun s => [(7, .ptr 7 0), (10, .bool s.1.1), (11, .bool s.1.2)]) (fun s => [(7, .box (eIns a3) 81)]) (fun Q2365 qn2365 qx2365 qr2365 => ?_) (by intro s; rw [hn]; rfl) ?_
      · refine goc hn ?_
        refine bselM h32 (fun hb34 h32 => ?_) (fun hb34 h32 => ?_)
        · refine god hn (by kernel_rfl) ?_
          obtain ⟨r35, hr36, h32⟩ := bindM h32
          show CallOk Try.prog _ _ _ _
          refine CallOk.as (code_numbers_1_ok N a3.a a2.args r35 hr36) (by repeat (first | exact trivial | exact rfl | (refine And.intro ?_ ?_))) trivial rfl ?_
          refine qn2365 _ _ ?_
          obtain rfl := Option.some.inj h32
          refine EOk.done ?_
          exact ⟨⟨_, rfl⟩, [], trivial, ⟨⟨rfl, rfl, rfl, trivial⟩, ⟨rfl, trivial⟩, rfl, rfl⟩⟩
        · refine COk.seqQ fun Q2366 qn2366 qx2366 qr2366 => ?_
          refine COk.seqQ fun Q2367 qn2367 qx2367 qr2367 => ?_
          refine gor hn ?_
          refine qn2367 _ _ ?_
          obtain ⟨o39, h38, h32⟩ := bindM h32
          refine COk.joinR (ι := { s : Bool // o39 = s }) (fun s => [(0, .fp (eWd a0)), (1, .int a1), (2, .fp (eMe a2)), (7, .ptr 7 0), (9, .fn 79 []), (11, .bool false), (13, .int a3.op), (35, .bool s.1)]) (fun s => [(7, .box (eIns a3) 81)]) (fun Q2368 qn2368 qx2368 qr2368 => ?_) (by intro s; rw [hn]; rfl) ?_
          · refine goc hn ?_
            refine bselM h38 (fun hb40 h38 => ?_) (fun hb40 h38 => ?_)
            · refine gok hn ?_
              refine qn2368 _ _ ?_
              obtain rfl := Option.some.inj h38
              refine EOk.done ?_
              exact ⟨⟨_, rfl⟩, [], trivial, ⟨⟨(by repeat (first | exact trivial | exact rfl | (refine And.intro ?_ ?_))), rfl, (by repeat (first | exact trivial | exact rfl | (refine And.intro ?_ ?_))), rfl, (by repeat (first | exact trivial | exact rfl | (refine And.intro ?_ ?_))), rfl, rfl, rfl, trivial⟩, ⟨rfl, trivial⟩, rfl, rfl⟩⟩
            · refine gor hn ?_
              refine qn2368 _ _ ?_
              obtain rfl := Option.some.inj h38
              refine EOk.done ?_
              exact ⟨⟨_, rfl⟩, [], trivial, ⟨⟨(by repeat (first | exact trivial | exact rfl | (refine And.intro ?_ ?_))), rfl, (by repeat (first | exact trivial | exact rfl | (refine And.intro ?_ ?_))), rfl, (by repeat (first | exact trivial | exact rfl | (refine And.intro ?_ ?_))), rfl, rfl, rfl, trivial⟩, ⟨rfl, trivial⟩, rfl, rfl⟩⟩
          rintro ⟨v37, hv_⟩
          replace hv_ := hv_.symm
          subst hv_
          refine qn2366 _ _ ?_
          obtain ⟨o44, h43, h32⟩ := bindM h32
          refine COk.joinR (ι := { s : (Bool × Bool) // o44 = Ctl.next s }) (fun s => [(7, .ptr 7 0), (10, .bool s.1.1), (11, .bool s.1.2)]) (fun s => [(7, .box (eIns a3) 81)]) (fun Q2369 qn2369 qx2369 qr2369 => ?_) (by intro s; rw [hn]; rfl) ?_
          · refine goc hn ?_
            refine bselM h43 (fun hb45 h43 => ?_) (fun hb45 h43 => ?_)
            · refine god hn (by kernel_rfl) ?_
              obtain ⟨r46, hr47, h43⟩ := bindM h43
              show CallOk Try.prog _ _ _ _
              refine CallOk.as (code_numbers_1_ok N a3.a a2.temps r46 hr47) (by repeat (first | exact trivial | exact rfl | (refine And.intro ?_ ?_))) trivial rfl ?_
              refine qn2369 _ _ ?_
              obtain rfl := Option.some.inj h43
              refine EOk.done ?_
              exact ⟨⟨_, rfl⟩, [], trivial, ⟨⟨rfl, rfl, rfl, trivial⟩, ⟨rfl, trivial⟩, rfl, rfl⟩⟩
            · refine COk.seqQ fun Q2370 qn2370 qx2370 qr2370 => ?_
              refine COk.seqQ fun Q2371 qn2371 qx2371 qr2371 => ?_
              refine gor hn ?_
              refine qn2371 _ _ ?_
              obtain ⟨o50, h49, h43⟩ := bindM h43
              refine COk.joinR (ι := { s : Bool // o50 = s }) (fun s => [(0, .fp (eWd a0)), (1, .int a1), (2, .fp (eMe a2)), (7, .ptr 7 0), (9, .fn 79 []), (11, .bool false), (13, .int a3.op), (46, .bool s.1)]) (fun s => [(7, .box (eIns a3) 81)]) (fun Q2372 qn2372 qx2372 qr2372 => ?_) (by intro s; rw [hn]; rfl) ?_
              · refine goc hn ?_
                refine bselM h49 (fun hb51 h49 => ?_) (fun hb51 h49 => ?_)
                · refine gok hn ?_
                  refine qn2372 _ _ ?_
                  obtain rfl := Option.some.inj h49
                  refine EOk.done ?_
                  exact ⟨⟨_, rfl⟩, [], trivial, ⟨⟨(by repeat (first | exact trivial | exact rfl | (refine And.intro ?_ ?_))), rfl, (by repeat (first | exact trivial | exact rfl | (refine And.intro ?_ ?_))), rfl, (by repeat (first | exact trivial | exact rfl | (refine And.intro ?_ ?_))), rfl, rfl, rfl, trivial⟩, ⟨rfl, trivial⟩, rfl, rfl⟩⟩
                · refine gor hn ?_
                  refine qn2372 _ _ ?_
                  obtain rfl := Option.some.inj h49
                  refine EOk.done ?_
                  exact ⟨⟨_, rfl⟩, [], trivial, ⟨⟨(by repeat (first | exact trivial | exact rfl | (refine And.intro ?_ ?_))), rfl, (by repeat (first | exact trivial | exact rfl | (refine And.intro ?_ ?_))), rfl, (by repeat (first | exact trivial | exact rfl | (refine And.intro ?_ ?_))), rfl, rfl, rfl, trivial⟩, ⟨rfl, trivial⟩, rfl, rfl⟩⟩
              rintro ⟨v48, hv_⟩
              replace hv_ := hv_.symm
              subst hv_
              refine qn2370 _ _ ?_
              obtain ⟨o55, h54, h43⟩ := bindM h43
              refine COk.joinR (ι := { s : (Bool × Bool) // o55 = Ctl.next s }) (fun s => [(7, .ptr 7 0), (10, .bool s.1.1), (11, .bool s.1.2)]) (fun s => [(7, .box (eIns a3) 81)]) (fun Q2373 qn2373 qx2373 qr2373 => ?_) (by intro s; rw [hn]; rfl) ?_
              · refine goc hn ?_
                refine bselM h54 (fun hb56 h54 => ?_) (fun hb56 h54 => ?_)
                · refine god hn (by kernel_rfl) ?_
                  obtain ⟨r57, hr58, h54⟩ := bindM h54
                  show CallOk Try.prog _ _ _ _
                  refine CallOk.as (class_Slots_ok N a0 a1 r57 hr58) (by repeat (first | exact trivial | exact rfl | (refine And.intro ?_ ?_))) trivial rfl ?_
                  obtain ⟨r59, hr60, h54⟩ := bindM h54
                  show CallOk Try.prog _ _ _ _
                  refine CallOk.as (code_numbers_1_ok N a3.a r57 r59 hr60) (by repeat (first | exact trivial | exact rfl | (refine And.intro ?_ ?_))) trivial rfl ?_
                  refine qn2373 _ _ ?_
                  obtain rfl := Option.some.inj h54
                  refine EOk.done ?_
                  exact ⟨⟨_, rfl⟩, [], trivial, ⟨⟨rfl, rfl, rfl, trivial⟩, ⟨rfl, trivial⟩, rfl, rfl⟩⟩
                · refine COk.seqQ fun Q2374 qn2374 qx2374 qr2374 => ?_
                  refine gor hn ?_
                  refine qn2374 _ _ ?_
                  obtain ⟨o64, h63, h54⟩ := bindM h54
                  refine COk.joinR (ι := { s : (Bool × Bool) // o64 = Ctl.next s }) (fun s => [(7, .ptr 7 0), (10, .bool s.1.1), (11, .bool s.1.2)]) (fun s => [(7, .box (eIns a3) 81)]) (fun Q2375 qn2375 qx2375 qr2375 => ?_) (by intro s; rw [hn]; rfl) ?_
                  · refine goc hn ?_
                    refine bselM h63 (fun hb65 h63 => ?_) (fun hb65 h63 => ?_)
                    · obtain ⟨o68, h67, h63⟩ := bindM h63
                      refine COk.joinR (ι := { s : Bool // o68 = s }) (fun s => [(7, .ptr 7 0), (10, .bool s.1), (11, .bool false)]) (fun s => [(7, .box (eIns a3) 81)]) (fun Q2376 qn2376 qx2376 qr2376 => ?_) (by intro s; rw [hn]; rfl) ?_
                      · refine gor hn ?_
                        refine bselM h67 (fun hb69 h67 => ?_) (fun hb69 h67 => ?_)
                        · refine bselT hb69 ?_
                          refine bselT hb69 ?_
                          refine bselT hb69 ?_
                          refine qn2376 _ _ ?_
                          obtain rfl := Option.some.inj h67
                          refine EOk.done ?_
                          exact ⟨⟨_, rfl⟩, [], trivial, ⟨⟨rfl, rfl, rfl, trivial⟩, ⟨rfl, trivial⟩, rfl, rfl⟩⟩
                        · refine bselF hb69 ?_
                          refine bselF hb69 ?_
                          refine bselF hb69 ?_
                          refine qn2376 _ _ ?_
                          obtain rfl := Option.some.inj h67
                          refine EOk.done ?_
                          exact ⟨⟨_, rfl⟩, [], trivial, ⟨⟨rfl, rfl, rfl, trivial⟩, ⟨rfl, trivial⟩, rfl, rfl⟩⟩
                      rintro ⟨v66, hv_⟩
                      replace hv_ := hv_.symm
                      subst hv_
                      refine qn2375 _ _ ?_
                      obtain rfl := Option.some.inj h63
                      refine EOk.done ?_
                      exact ⟨⟨_, rfl⟩, [], trivial, ⟨⟨rfl, rfl, rfl, trivial⟩, ⟨rfl, trivial⟩, rfl, rfl⟩⟩
                    · refine COk.seqQ fun Q2377 qn2377 qx2377 qr2377 => ?_
                      refine gor hn ?_
                      refine qn2377 _ _ ?_
                      obtain ⟨o73, h72, h63⟩ := bindM h63
                      refine COk.joinR (ι := { s : (Bool × Bool) // o73 = Ctl.next s }) (fun s => [(7, .ptr 7 0), (10, .bool s.1.1), (11, .bool s.1.2)]) (fun s => [(7, .box (eIns a3) 81)]) (fun Q2378 qn2378 qx2378 qr2378 => ?_) (by intro s; rw [hn]; rfl) ?_
                      · refine goc hn ?_
                        refine bselM h72 (fun hb74 h72 => ?_) (fun hb74 h72 => ?_)
                        · obtain ⟨o77, h76, h72⟩ := bindM h72
                          refine COk.joinR (ι := { s : Bool // o77 = s }) (fun s => [(7, .ptr 7 0), (10, .bool s.1), (11, .bool false)]) (fun s => [(7, .box (eIns a3) 81)]) (fun Q2379 qn2379 qx2379 qr2379 => ?_) (by intro s; rw [hn]; rfl) ?_
                          · refine COk.sub (ts2 := [(0, .fp (eWd a0)), (7, .ptr 7 0), (11, .bool false)]) (os2 := [(7, .box (eIns a3) 81)]) [] ⟨⟨(by repeat (first | exact trivial | exact rfl | (refine And.intro ?_ ?_))), rfl, rfl, trivial⟩, ⟨rfl, trivial⟩, rfl, rfl⟩ (by rw [hn]; rfl) ?_
                            refine god hn (by kernel_rfl) ?_
                            refine bselM h76 (fun hb78 h76 => ?_) (fun hb78 h76 => ?_)
                            · refine bselT hb78 ?_
                              refine bselT hb78 ?_
                              refine bselT hb78 ?_
                              refine bselT hb78 ?_
                              refine bselT hb78 ?_
                              refine qn2379 _ _ ?_
                              obtain rfl := Option.some.inj h76
                              refine EOk.done ?_
                              exact ⟨⟨_, rfl⟩, [], trivial, ⟨⟨rfl, rfl, rfl, trivial⟩, ⟨rfl, trivial⟩, rfl, rfl⟩⟩
                            · refine bselF hb78 ?_
                              refine bselF hb78 ?_
                              refine bselF hb78 ?_
                              refine bselM h76 (fun hb79 h76 => ?_) (fun hb79 h76 => ?_)
                              · refine bselT hb79 ?_
                                refine bselT hb79 ?_
                                refine bselT hb79 ?_
                                refine bselT hb79 ?_
                                refine bselT hb79 ?_
                                refine bselT hb79 ?_
                                refine lenM (fun hl80 => ?_)
                                refine bselT hb79 ?_
                                refine bselF hb78 ?_
                                refine bselT hb79 ?_
                                refine bselF hb78 ?_
                                refine qn2379 _ _ ?_
                                obtain rfl := Option.some.inj h76
                                refine EOk.done ?_
                                exact ⟨⟨_, rfl⟩, [], trivial, ⟨⟨rfl, rfl, rfl, trivial⟩, ⟨rfl, trivial⟩, rfl, rfl⟩⟩
                              · refine bselF hb79 ?_
                                refine bselF hb79 ?_
                                refine bselF hb79 ?_
                                refine bselF hb79 ?_
                                refine bselF hb79 ?_
                                refine bselF hb79 ?_
                                refine bselF hb79 ?_
                                refine bselF hb78 ?_
                                refine bselF hb79 ?_
                                refine bselF hb78 ?_
                                refine qn2379 _ _ ?_
                                obtain rfl := Option.some.inj h76
                                refine EOk.done ?_
                                exact ⟨⟨_, rfl⟩, [], trivial, ⟨⟨rfl, rfl, rfl, trivial⟩, ⟨rfl, trivial⟩, rfl, rfl⟩⟩
                          rintro ⟨v75, hv_⟩
                          replace hv_ := hv_.symm
                          subst hv_
                          refine qn2378 _ _ ?_
                          obtain rfl := Option.some.inj h72
                          refine EOk.done ?_
                          exact ⟨⟨_, rfl⟩, [], trivial, ⟨⟨rfl, rfl, rfl, trivial⟩, ⟨rfl, trivial⟩, rfl, rfl⟩⟩
                        · refine COk.seqQ fun Q2380 qn2380 qx2380 qr2380 => ?_
                          refine gor hn ?_
                          refine qn2380 _ _ ?_
                          obtain ⟨o84, h83, h72⟩ := bindM h72
                          refine COk.joinR (ι := { s : (Bool × Bool) // o84 = Ctl.next s }) (fun s => [(7, .ptr 7 0), (10, .bool s.1.1), (11, .bool s.1.2)]) (fun s => [(7, .box (eIns a3) 81)]) (fun Q2381 qn2381 qx2381 qr2381 => ?_) (by intro s; rw [hn]; rfl) ?_
                          · refine goc hn ?_
                            refine bselM h83 (fun hb85 h83 => ?_) (fun hb85 h83 => ?_)
                            · refine gor hn ?_
                              obtain ⟨r86, hr87, h83⟩ := bindM h83
                              show CallOk Try.prog _ _ _ _
                              refine CallOk.as (code_numbers_1_ok N a3.a (5 : Int) r86 hr87) (by repeat (first | exact trivial | exact rfl | (refine And.intro ?_ ?_))) trivial rfl ?_
                              refine qn2381 _ _ ?_
                              obtain rfl := Option.some.inj h83
                              refine EOk.done ?_
                              exact ⟨⟨_, rfl⟩, [], trivial, ⟨⟨rfl, rfl, rfl, trivial⟩, ⟨rfl, trivial⟩, rfl, rfl⟩⟩
                            · refine COk.seqQ fun Q2382 qn2382 qx2382 qr2382 => ?_
                              refine COk.seqQ fun Q2383 qn2383 qx2383 qr2383 => ?_
                              refine gor hn ?_
                              refine qn2383 _ _ ?_
                              obtain ⟨o90, h89, h83⟩ := bindM h83
                              refine COk.joinR (ι := { s : Bool // o90 = s }) (fun s => [(2, .fp (eMe a2)), (7, .ptr 7 0), (9, .fn 79 []), (11, .bool false), (94, .bool s.1)]) (fun s => [(7, .box (eIns a3) 81)]) (fun Q2384 qn2384 qx2384 qr2384 => ?_) (by intro s; rw [hn]; rfl) ?_
                              · refine goc hn ?_
                                refine bselM h89 (fun hb91 h89 => ?_) (fun hb91 h89 => ?_)
                                · refine gok hn ?_
                                  refine qn2384 _ _ ?_
                                  obtain rfl := Option.some.inj h89
                                  refine EOk.done ?_
                                  exact ⟨⟨_, rfl⟩, [], trivial, ⟨⟨(by repeat (first | exact trivial | exact rfl | (refine And.intro ?_ ?_))), rfl, (by repeat (first | exact trivial | exact rfl | (refine And.intro ?_ ?_))), rfl, rfl, trivial⟩, ⟨rfl, trivial⟩, rfl, rfl⟩⟩
                                · refine gor hn ?_
                                  refine qn2384 _ _ ?_
                                  obtain rfl := Option.some.inj h89
                                  refine EOk.done ?_
                                  exact ⟨⟨_, rfl⟩, [], trivial, ⟨⟨(by repeat (first | exact trivial | exact rfl | (refine And.intro ?_ ?_))), rfl, (by repeat (first | exact trivial | exact rfl | (refine And.intro ?_ ?_))), rfl, rfl, trivial⟩, ⟨rfl, trivial⟩, rfl, rfl⟩⟩
                              rintro ⟨v88, hv_⟩
                              replace hv_ := hv_.symm
                              subst hv_
                              refine qn2382 _ _ ?_
                              refine goc hn ?_
                              refine bselM h83 (fun hb92 h83 => ?_) (fun hb92 h83 => ?_)
                              · refine god hn (by kernel_rfl) ?_
                                refine lenM (fun hl93 => ?_)
                                obtain ⟨r94, hr95, h83⟩ := bindM h83
                                show CallOk Try.prog _ _ _ _
                                refine CallOk.as (code_numbers_1_ok N a3.a (a2.code.length : Int) r94 hr95) (by repeat (first | exact trivial | exact rfl | (refine And.intro ?_ ?_))) trivial rfl ?_
                                refine qn2381 _ _ ?_
                                obtain rfl := Option.some.inj h83
                                refine EOk.done ?_
                                exact ⟨⟨_, rfl⟩, [], trivial, ⟨⟨rfl, rfl, rfl, trivial⟩, ⟨rfl, trivial⟩, rfl, rfl⟩⟩
                              · refine COk.seqQ fun Q2385 qn2385 qx2385 qr2385 => ?_
                                refine gor hn ?_
                                refine qn2385 _ _ ?_
                                refine got hn ?_
                                refine qr2381 _ _ ?_
                                refine qr2378 _ _ ?_
                                refine qr2375 _ _ ?_
                                refine qr2373 _ _ ?_
                                refine qr2369 _ _ ?_
                                refine qr2365 _ _ ?_
                                refine qr2363 _ _ ?_
                                refine qr2349 _ _ ?_
                                refine qr1206 _ _ ?_
                                obtain rfl := Option.some.inj h83
                                obtain rfl := Option.some.inj h72
                                obtain rfl := Option.some.inj h63
                                obtain rfl := Option.some.inj h54
                                obtain rfl := Option.some.inj h43
                                obtain rfl := Option.some.inj h32
                                obtain rfl := Option.some.inj h27
                                obtain rfl := Option.some.inj h
                                exact ⟨[], _, rfl, (by repeat (first | exact trivial | exact rfl | (refine And.intro ?_ ?_))), trivial, rfl, rfl, rfl, rfl, rfl⟩
                          rintro ⟨⟨v81, v82⟩, rfl⟩
                          refine qn2378 _ _ ?_
                          obtain rfl := Option.some.inj h72
                          refine EOk.done ?_
                          exact ⟨⟨_, rfl⟩, [], trivial, ⟨⟨rfl, rfl, rfl, trivial⟩, ⟨rfl, trivial⟩, rfl, rfl⟩⟩
                      rintro ⟨⟨v70, v71⟩, rfl⟩
                      refine qn2375 _ _ ?_
                      obtain rfl := Option.some.inj h63
                      refine EOk.done ?_
                      exact ⟨⟨_, rfl⟩, [], trivial, ⟨⟨rfl, rfl, rfl, trivial⟩, ⟨rfl, trivial⟩, rfl, rfl⟩⟩
                  rintro ⟨⟨v61, v62⟩, rfl⟩
                  refine qn2373 _ _ ?_
                  obtain rfl := Option.some.inj h54
                  refine EOk.done ?_
                  exact ⟨⟨_, rfl⟩, [], trivial, ⟨⟨rfl, rfl, rfl, trivial⟩, ⟨rfl, trivial⟩, rfl, rfl⟩⟩
              rintro ⟨⟨v52, v53⟩, rfl⟩
              refine qn2369 _ _ ?_
              obtain rfl := Option.some.inj h43
              refine EOk.done ?_
              exact ⟨⟨_, rfl⟩, [], trivial, ⟨⟨rfl, rfl, rfl, trivial⟩, ⟨rfl, trivial⟩, rfl, rfl⟩⟩
          rintro ⟨⟨v41, v42⟩, rfl⟩
          refine qn2365 _ _ ?_
          obtain rfl := Option.some.inj h32
          refine EOk.done ?_
          exact ⟨⟨_, rfl⟩, [], trivial, ⟨⟨rfl, rfl, rfl, trivial⟩, ⟨rfl, trivial⟩, rfl, rfl⟩⟩
      rintro ⟨⟨v30, v31⟩, rfl⟩
      refine qn2363 _ _ ?_
      obtain rfl := Option.some.inj h27
      refine EOk.done ?_
      exact ⟨⟨_, rfl⟩, [], trivial, ⟨⟨rfl, rfl, rfl, trivial⟩, ⟨rfl, trivial⟩, rfl, rfl⟩⟩
  rintro ⟨⟨v25, v26⟩, rfl⟩
  refine qn2349 _ _ ?_
  refine qn1206 _ _ ?_
  refine COk.seqQ fun Q2386 qn2386 qx2386 qr2386 => ?_
  refine COk.blkQ fun Q2398 qn2398 qe2398 qx2398 qr2398 => ?_
  refine COk.seqQ fun Q2399 qn2399 qx2399 qr2399 => ?_
  refine gor hn ?_
  refine qn2399 _ _ ?_
  refine goc hn ?_
  refine bselM h (fun hb96 h => ?_) (fun hb96 h => ?_)
  · refine COk.seqQ fun Q2400 qn2400 qx2400 qr2400 => ?_
    refine gor hn ?_
    refine qn2400 _ _ ?_
    refine got hn ?_
    refine qr2398 _ _ ?_
    refine qr2386 _ _ ?_
    obtain rfl := Option.some.inj h
    exact ⟨[], _, rfl, (by repeat (first | exact trivial | exact rfl | (refine And.intro ?_ ?_))), trivial, rfl, rfl, rfl, rfl, rfl⟩
  · refine COk.seqQ fun Q2401 qn2401 qx2401 qr2401 => ?_
    obtain ⟨o99, h98, h⟩ := bindM h
    refine COk.joinR (ι := { s : Bool // o99 = s }) (fun s => [(109, .bool s.1)]) (fun s => []) (fun Q2402 qn2402 qx2402 qr2402 => ?_) (by intro s; rw [hn]; rfl) ?_
    · refine gor hn ?_
      refine bselM h98 (fun hb100 h98 => ?_) (fun hb100 h98 => ?_)
      · refine bselT hb100 ?_
        refine bselT hb100 ?_
        obtain ⟨r101, hr102, h98⟩ := bindM h98
        show CallOk Try.prog _ _ _ _
        refine CallOk.as (class_Name_ok N a3.name r101 hr102) (by repeat (first | exact trivial | exact rfl | (refine And.intro ?_ ?_))) trivial rfl ?_
        refine bselT hb100 ?_
        refine bselT hb100 ?_
        refine bselM h98 (fun hb103 h98 => ?_) (fun hb103 h98 => ?_)
        · refine bselT hb103 ?_
          refine bselT hb103 ?_
          refine bselT hb103 ?_
          refine bselT hb103 ?_
          refine qn2402 _ _ ?_
          obtain rfl := Option.some.inj h98
          refine EOk.done ?_
          exact ⟨⟨_, rfl⟩, [], trivial, ⟨⟨rfl, trivial⟩, trivial, rfl, rfl⟩⟩
        · refine bselF hb103 ?_
          refine bselF hb103 ?_
          refine bselM h98 (fun hb104 h98 => ?_) (fun hb104 h98 => ?_)
          · refine bselT hb104 ?_
            refine bselT hb104 ?_
            refine bselF hb103 ?_
            refine bselT hb104 ?_
            refine bselF hb103 ?_
            refine bselM h98 (fun hb105 h98 => ?_) (fun hb105 h98 => ?_)
            · refine bselT hb105 ?_
              refine bselT hb105 ?_
              refine bselT hb105 ?_
              refine qn2402 _ _ ?_
              obtain rfl := Option.some.inj h98
              refine EOk.done ?_
              exact ⟨⟨_, rfl⟩, [], trivial, ⟨⟨rfl, trivial⟩, trivial, rfl, rfl⟩⟩
            · refine bselF hb105 ?_
              refine bselF hb105 ?_
              refine bselF hb105 ?_
              refine bselM h98 (fun hb106 h98 => ?_) (fun hb106 h98 => ?_)
              · refine bselT hb106 ?_
                refine bselT hb106 ?_
                refine bselT hb106 ?_
                refine qn2402 _ _ ?_
                obtain rfl := Option.some.inj h98
                refine EOk.done ?_
                exact ⟨⟨_, rfl⟩, [], trivial, ⟨⟨rfl, trivial⟩, trivial, rfl, rfl⟩⟩
              · refine bselF hb106 ?_
                refine bselF hb106 ?_
                refine bselF hb106 ?_
                refine qn2402 _ _ ?_
                obtain rfl := Option.some.inj h98
                refine EOk.done ?_
                exact ⟨⟨_, rfl⟩, [], trivial, ⟨⟨rfl, trivial⟩, trivial, rfl, rfl⟩⟩
          · refine bselF hb104 ?_
            refine bselF hb104 ?_
            refine bselF hb103 ?_
            refine bselF hb104 ?_
            refine bselF hb103 ?_
            refine bselM h98 (fun hb107 h98 => ?_) (fun hb107 h98 => ?_)
            · refine bselT hb107 ?_
              refine bselT hb107 ?_
              refine bselT hb107 ?_
              refine qn2402 _ _ ?_
              obtain rfl := Option.some.inj h98
              refine EOk.done ?_
              exact ⟨⟨_, rfl⟩, [], trivial, ⟨⟨rfl, trivial⟩, trivial, rfl, rfl⟩⟩
            · refine bselF hb107 ?_
              refine bselF hb107 ?_
              refine bselF hb107 ?_
              refine qn2402 _ _ ?_
              obtain rfl := Option.some.inj h98
              refine EOk.done ?_
              exact ⟨⟨_, rfl⟩, [], trivial, ⟨⟨rfl, trivial⟩, trivial, rfl, rfl⟩⟩
      · refine bselF hb100 ?_
        refine bselF hb100 ?_
        refine bselF hb100 ?_
        refine bselF hb100 ?_
        refine bselM h98 (fun hb108 h98 => ?_) (fun hb108 h98 => ?_)
        · refine bselT hb108 ?_
          refine bselT hb108 ?_
          refine bselT hb108 ?_
          refine bselM h98 (fun hb109 h98 => ?_) (fun hb109 h98 => ?_)
          · refine bselT hb109 ?_
            refine bselT hb109 ?_
            refine bselT hb109 ?_
            refine qn2402 _ _ ?_
            obtain rfl := Option.some.inj h98
            refine EOk.done ?_
            exact ⟨⟨_, rfl⟩, [], trivial, ⟨⟨rfl, trivial⟩, trivial, rfl, rfl⟩⟩
          · refine bselF hb109 ?_
            refine bselF hb109 ?_
            refine bselF hb109 ?_
            refine bselM h98 (fun hb110 h98 => ?_) (fun hb110 h98 => ?_)
            · refine bselT hb110 ?_
              refine bselT hb110 ?_
              refine bselT hb110 ?_
              refine qn2402 _ _ ?_
              obtain rfl := Option.some.inj h98
              refine EOk.done ?_
              exact ⟨⟨_, rfl⟩, [], trivial, ⟨⟨rfl, trivial⟩, trivial, rfl, rfl⟩⟩
            · refine bselF hb110 ?_
              refine bselF hb110 ?_
              refine bselF hb110 ?_
              refine qn2402 _ _ ?_
              obtain rfl := Option.some.inj h98
              refine EOk.done ?_
              exact ⟨⟨_, rfl⟩, [], trivial, ⟨⟨rfl, trivial⟩, trivial, rfl, rfl⟩⟩
        · refine bselF hb108 ?_
          refine bselF hb108 ?_
          refine bselF hb108 ?_
          refine bselM h98 (fun hb111 h98 => ?_) (fun hb111 h98 => ?_)
          · refine bselT hb111 ?_
            refine bselT hb111 ?_
            refine bselT hb111 ?_
            refine qn2402 _ _ ?_
            obtain rfl := Option.some.inj h98
            refine EOk.done ?_
            exact ⟨⟨_, rfl⟩, [], trivial, ⟨⟨rfl, trivial⟩, trivial, rfl, rfl⟩⟩
          · refine bselF hb111 ?_
            refine bselF hb111 ?_
            refine bselF hb111 ?_
            refine qn2402 _ _ ?_
            obtain rfl := Option.some.inj h98
            refine EOk.done ?_
            exact ⟨⟨_, rfl⟩, [], trivial, ⟨⟨rfl, trivial⟩, trivial, rfl, rfl⟩⟩
    rintro ⟨v97, hv_⟩
    replace hv_ := hv_.symm
    subst hv_
    refine qn2401 _ _ ?_
    refine goc hn ?_
    refine bselM h (fun hb112 h => ?_) (fun hb112 h => ?_)
    · refine COk.seqQ fun Q2403 qn2403 qx2403 qr2403 => ?_
      refine gor hn ?_
      refine qn2403 _ _ ?_
      refine got hn ?_
      refine qr2398 _ _ ?_
      refine qr2386 _ _ ?_
      obtain rfl := Option.some.inj h
      exact ⟨[], _, rfl, (by repeat (first | exact trivial | exact rfl | (refine And.intro ?_ ?_))), trivial, rfl, rfl, rfl, rfl, rfl⟩
    · refine gok hn ?_
      refine qn2398 _ _ ?_
      refine qn2386 _ _ ?_
      refine COk.seqQ fun Q2404 qn2404 qx2404 qr2404 => ?_
      refine gor hn ?_
      refine qn2404 _ _ ?_
      refine got hn ?_
      obtain rfl := Option.some.inj h
      exact ⟨[], _, rfl, (by repeat (first | exact trivial | exact rfl | (refine And.intro ?_ ?_))), trivial, rfl, rfl, rfl, rfl, rfl⟩
end Go.Proofs.Ytioalgofaiideaa
