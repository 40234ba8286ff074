/- Walks after the mirrors. Printed by mir.py. -/
import Derived.Test.YtioalgofaiideaaWk1
namespace Go.Proofs.Ytioalgofaiideaa
open Go.RowKit
set_option linter.unusedVariables false
/- code.effect -/
set_option maxRecDepth 100000 in
set_option maxHeartbeats 1000000 in
theorem code_effect_ok (N : Nat) (a0 : Ins) (r : (Int × Int)) (h : code_effect N a0 = some r) : Spec Try.prog 75 [] [.agg (eIns a0)] (.tup [.int r.1, .int r.2]) [] [] := by
  refine Spec.of tabOk Try.func75 rfl Try.ntmps75 (by kernel_rfl) rfl rfl rfl fun Γ hn => ?_
  unfold code_effect at h
  refine COk.seqQ fun Q77 qn77 qx77 qr77 => ?_
  refine gor hn ?_
  refine qn77 _ _ ?_
  refine COk.seqQ fun Q78 qn78 qx78 qr78 => ?_
  refine COk.seqQ fun Q79 qn79 qx79 qr79 => ?_
  refine gor hn ?_
  refine qn79 _ _ ?_
  refine COk.blkQ fun Q135 qn135 qe135 qx135 qr135 => ?_
  refine COk.seqQ fun Q136 qn136 qx136 qr136 => ?_
  refine COk.seqQ fun Q137 qn137 qx137 qr137 => ?_
  refine gor hn ?_
  refine qn137 _ _ ?_
  obtain ⟨o3, h2, h⟩ := bindM h
  refine COk.joinR (ι := { s : Bool // o3 = s }) (fun s => [(1, .ptr 1 0), (5, .int a0.op), (6, .bool s.1)]) (fun s => [(1, .box (eIns a0) 81)]) (fun Q138 qn138 qx138 qr138 => ?_) (by intro s; rw [hn]; rfl) ?_
  · refine goc hn ?_
    refine bselM h2 (fun hb4 h2 => ?_) (fun hb4 h2 => ?_)
    · refine gok hn ?_
      refine qn138 _ _ ?_
      obtain rfl := Option.some.inj h2
      refine EOk.done ?_
      exact ⟨⟨_, rfl⟩, [], trivial, ⟨⟨rfl, rfl, rfl, trivial⟩, ⟨rfl, trivial⟩, rfl, rfl⟩⟩
    · refine COk.seqQ fun Q139 qn139 qx139 qr139 => ?_
      refine gor hn ?_
      refine qn139 _ _ ?_
      obtain ⟨o7, h6, h2⟩ := bindM h2
      refine COk.joinR (ι := { s : Bool // o7 = s }) (fun s => [(1, .ptr 1 0), (5, .int a0.op), (6, .bool s.1)]) (fun s => [(1, .box (eIns a0) 81)]) (fun Q140 qn140 qx140 qr140 => ?_) (by intro s; rw [hn]; rfl) ?_
      · refine goc hn ?_
        refine bselM h6 (fun hb8 h6 => ?_) (fun hb8 h6 => ?_)
        · refine gok hn ?_
          refine qn140 _ _ ?_
          obtain rfl := Option.some.inj h6
          refine EOk.done ?_
          exact ⟨⟨_, rfl⟩, [], trivial, ⟨⟨rfl, rfl, rfl, trivial⟩, ⟨rfl, trivial⟩, rfl, rfl⟩⟩
        · refine COk.seqQ fun Q141 qn141 qx141 qr141 => ?_
          refine gor hn ?_
          refine qn141 _ _ ?_
          obtain ⟨o11, h10, h6⟩ := bindM h6
          refine COk.joinR (ι := { s : Bool // o11 = s }) (fun s => [(1, .ptr 1 0), (5, .int a0.op), (6, .bool s.1)]) (fun s => [(1, .box (eIns a0) 81)]) (fun Q142 qn142 qx142 qr142 => ?_) (by intro s; rw [hn]; rfl) ?_
          · refine goc hn ?_
            refine bselM h10 (fun hb12 h10 => ?_) (fun hb12 h10 => ?_)
            · refine gok hn ?_
              refine qn142 _ _ ?_
              obtain rfl := Option.some.inj h10
              refine EOk.done ?_
              exact ⟨⟨_, rfl⟩, [], trivial, ⟨⟨rfl, rfl, rfl, trivial⟩, ⟨rfl, trivial⟩, rfl, rfl⟩⟩
            · refine COk.seqQ fun Q143 qn143 qx143 qr143 => ?_
              refine gor hn ?_
              refine qn143 _ _ ?_
              obtain ⟨o15, h14, h10⟩ := bindM h10
              refine COk.joinR (ι := { s : Bool // o15 = s }) (fun s => [(1, .ptr 1 0), (5, .int a0.op), (6, .bool s.1)]) (fun s => [(1, .box (eIns a0) 81)]) (fun Q144 qn144 qx144 qr144 => ?_) (by intro s; rw [hn]; rfl) ?_
              · refine goc hn ?_
                refine bselM h14 (fun hb16 h14 => ?_) (fun hb16 h14 => ?_)
                · refine gok hn ?_
                  refine qn144 _ _ ?_
                  obtain rfl := Option.some.inj h14
                  refine EOk.done ?_
                  exact ⟨⟨_, rfl⟩, [], trivial, ⟨⟨rfl, rfl, rfl, trivial⟩, ⟨rfl, trivial⟩, rfl, rfl⟩⟩
                · refine gor hn ?_
                  refine qn144 _ _ ?_
                  obtain rfl := Option.some.inj h14
                  refine EOk.done ?_
                  exact ⟨⟨_, rfl⟩, [], trivial, ⟨⟨rfl, rfl, rfl, trivial⟩, ⟨rfl, trivial⟩, rfl, rfl⟩⟩
              rintro ⟨v13, hv_⟩
              replace hv_ := hv_.symm
              subst hv_
              refine qn142 _ _ ?_
              obtain rfl := Option.some.inj h10
              refine EOk.done ?_
              exact ⟨⟨_, rfl⟩, [], trivial, ⟨⟨rfl, rfl, rfl, trivial⟩, ⟨rfl, trivial⟩, rfl, rfl⟩⟩
          rintro ⟨v9, hv_⟩
          replace hv_ := hv_.symm
          subst hv_
          refine qn140 _ _ ?_
          obtain rfl := Option.some.inj h6
          refine EOk.done ?_
          exact ⟨⟨_, rfl⟩, [], trivial, ⟨⟨rfl, rfl, rfl, trivial⟩, ⟨rfl, trivial⟩, rfl, rfl⟩⟩
      rintro ⟨v5, hv_⟩
      replace hv_ := hv_.symm
      subst hv_
      refine qn138 _ _ ?_
      obtain rfl := Option.some.inj h2
      refine EOk.done ?_
      exact ⟨⟨_, rfl⟩, [], trivial, ⟨⟨rfl, rfl, rfl, trivial⟩, ⟨rfl, trivial⟩, rfl, rfl⟩⟩
  rintro ⟨v1, hv_⟩
  replace hv_ := hv_.symm
  subst hv_
  refine qn136 _ _ ?_
  refine goc hn ?_
  refine bselM h (fun hb17 h => ?_) (fun hb17 h => ?_)
  · refine COk.seqQ fun Q145 qn145 qx145 qr145 => ?_
    refine gor hn ?_
    refine qn145 _ _ ?_
    refine got hn ?_
    refine qr135 _ _ ?_
    refine qr78 _ _ ?_
    obtain rfl := Option.some.inj h
    exact ⟨[], _, rfl, (by repeat (first | exact trivial | exact rfl | (refine And.intro ?_ ?_))), trivial, rfl, rfl, rfl, rfl, rfl⟩
  · refine COk.seqQ fun Q146 qn146 qx146 qr146 => ?_
    refine gor hn ?_
    refine qn146 _ _ ?_
    refine goc hn ?_
    refine bselM h (fun hb18 h => ?_) (fun hb18 h => ?_)
    · refine COk.seqQ fun Q147 qn147 qx147 qr147 => ?_
      refine gor hn ?_
      refine qn147 _ _ ?_
      refine got hn ?_
      refine qr135 _ _ ?_
      refine qr78 _ _ ?_
      obtain rfl := Option.some.inj h
      exact ⟨[], _, rfl, (by repeat (first | exact trivial | exact rfl | (refine And.intro ?_ ?_))), trivial, rfl, rfl, rfl, rfl, rfl⟩
    · refine COk.seqQ fun Q148 qn148 qx148 qr148 => ?_
      refine gor hn ?_
      refine qn148 _ _ ?_
      refine goc hn ?_
      refine bselM h (fun hb19 h => ?_) (fun hb19 h => ?_)
      · refine COk.seqQ fun Q149 qn149 qx149 qr149 => ?_
        refine gor hn ?_
        refine Or.inr ?_
        refine qn149 _ _ ?_
        refine got hn ?_
        refine qr135 _ _ ?_
        refine qr78 _ _ ?_
        obtain rfl := Option.some.inj h
        exact ⟨[], _, rfl, (by repeat (first | exact trivial | exact rfl | (refine And.intro ?_ ?_))), trivial, rfl, rfl, rfl, rfl, rfl⟩
      · refine COk.seqQ fun Q150 qn150 qx150 qr150 => ?_
        refine gor hn ?_
        refine qn150 _ _ ?_
        refine goc hn ?_
        refine bselM h (fun hb20 h => ?_) (fun hb20 h => ?_)
        · refine COk.seqQ fun Q151 qn151 qx151 qr151 => ?_
          refine gor hn ?_
          refine qn151 _ _ ?_
          refine got hn ?_
          refine qr135 _ _ ?_
          refine qr78 _ _ ?_
          obtain rfl := Option.some.inj h
          exact ⟨[], _, rfl, (by repeat (first | exact trivial | exact rfl | (refine And.intro ?_ ?_))), trivial, rfl, rfl, rfl, rfl, rfl⟩
        · refine gok hn ?_
          refine qn135 _ _ ?_
          refine qn78 _ _ ?_
          refine COk.seqQ fun Q152 qn152 qx152 qr152 => ?_
          refine gor hn ?_
          refine qn152 _ _ ?_
          refine got hn ?_
          obtain rfl := Option.some.inj h
          exact ⟨[], _, rfl, (by repeat (first | exact trivial | exact rfl | (refine And.intro ?_ ?_))), trivial, rfl, rfl, rfl, rfl, rfl⟩

/- code.Heights -/
set_option maxRecDepth 100000 in
set_option maxHeartbeats 1000000 in
theorem code_Heights_ok (N : Nat) (a0 : Me) (r : ((List Int) × TFault)) (h : code_Heights N a0 = some r) : Spec Try.prog 50 [] [.agg (eMe a0)] (.tup [.own 0, .agg (eTFault r.2)]) [(0, .row 1 (List.map eInt r.1) 3)] [0] := by
  refine Spec.of tabOk Try.func50 rfl Try.ntmps50 (by kernel_rfl) rfl rfl rfl fun Γ hn => ?_
  unfold code_Heights at h
  refine COk.seqQ fun Q352 qn352 qx352 qr352 => ?_
  refine gor hn ?_
  refine qn352 _ _ ?_
  refine COk.seqQ fun Q353 qn353 qx353 qr353 => ?_
  refine gor hn ?_
  refine lenM (fun hl1 => ?_)
  obtain ⟨hg2, h⟩ := guardM h
  refine mkM (enc := eInt) (x := (0 : Int)) hg2 (by repeat (first | exact trivial | exact rfl | (refine And.intro ?_ ?_))) ?_
  refine qn353 _ _ ?_
  refine COk.seqQ fun Q354 qn354 qx354 qr354 => ?_
  refine COk.seqQ fun Q355 qn355 qx355 qr355 => ?_
  refine gor hn ?_
  refine lenM (fun hl3 => ?_)
  refine qn355 _ _ ?_
  refine COk.rng 17 rfl (fun hrn => ?_)
  obtain ⟨o8, h9, h⟩ := bindM h
  refine COk.joinR (ι := { s : (List Int) // o8 = s }) (fun s => [(1, .ptr 1 0), (3, .ptr 3 0), (4, .own 15)]) (fun s => [(1, .box (eMe a0) 74), (3, .box [.int (0 : Int), .int (0 : Int)] 85), (15, .row 1 (List.map eInt s.1) 3)]) (fun Q377 qn377 qx377 qr377 => ?_) (by intro s; rw [hn]; rfl) ?_
  · refine COk.blkQ fun Q378 qn378 qe378 qx378 qr378 => ?_
    refine COk.loopQ (ι := { q : (Nat × Nat × (List Int)) // q.1 = (((List.replicate (a0.code.length : Int).toNat (0 : Int)).length : Int) - (q.2.1 : Int)).toNat ∧ code_Heights_l1 N q.1 q.2.1 q.2.2 = some o8 }) (fun q => [(1, .ptr 1 0), (3, .ptr 3 0), (4, .own 15), (17, .int ((List.replicate (a0.code.length : Int).toNat (0 : Int)).length : Int)), (18, .int (q.1.2.1 : Int))]) (fun q => [(1, .box (eMe a0) 74), (3, .box [.int (0 : Int), .int (0 : Int)] 85), (15, .row 1 (List.map eInt q.1.2.2) 3)]) (fun q => q.1.1) ⟨((((List.replicate (a0.code.length : Int).toNat (0 : Int)).length : Int) - ((0 : Nat) : Int)).toNat, 0, (List.replicate (a0.code.length : Int).toNat (0 : Int))), rfl, h9⟩ [] ⟨⟨rfl, rfl, rfl, rfl, rfl, trivial⟩, ⟨rfl, rfl, rfl, trivial⟩, rfl, rfl⟩ (by intro q; rw [hn]; rfl) ?_
    rintro ⟨⟨n_, k4, v5⟩, hd11, h9⟩ Q379 qn379 qx379 qr379
    replace hd11 : n_ = (((List.replicate (a0.code.length : Int).toNat (0 : Int)).length : Int) - (k4 : Int)).toNat := hd11
    rcases n_ with _ | n12
    · have hlt15 := upNil hd11
      replace h9 := (code_Heights_l1.eq_1 _ _ _).symm.trans h9
      refine COk.seqQ fun Q380 qn380 qx380 qr380 => ?_
      refine gor hn ?_
      refine qn380 _ _ ?_
      refine COk.seqQ fun Q381 qn381 qx381 qr381 => ?_
      refine goc hn ?_
      refine bselF hlt15 ?_
      refine goe hn ?_
      refine qx381 _ _ _ ?_
      refine qx379 _ _ _ ?_
      refine qe378 _ _ ?_
      refine qn377 _ _ ?_
      obtain rfl := Option.some.inj h9
      refine EOk.done ?_
      exact ⟨⟨_, rfl⟩, [], trivial, ⟨⟨rfl, rfl, rfl, trivial⟩, ⟨rfl, rfl, rfl, trivial⟩, rfl, rfl⟩⟩
    · obtain ⟨hd2, hlt15⟩ := upCons hd11
      replace h9 := (code_Heights_l1.eq_2 _ _ _ _).symm.trans h9
      refine COk.seqQ fun Q382 qn382 qx382 qr382 => ?_
      refine gor hn ?_
      refine qn382 _ _ ?_
      refine COk.seqQ fun Q383 qn383 qx383 qr383 => ?_
      refine goc hn ?_
      refine bselT hlt15 ?_
      refine gok hn ?_
      refine qn383 _ _ ?_
      refine COk.seqQ fun Q384 qn384 qx384 qr384 => ?_
      refine COk.blkQ fun Q387 qn387 qe387 qx387 qr387 => ?_
      refine COk.seqQ fun Q388 qn388 qx388 qr388 => ?_
      refine gor hn ?_
      refine qn388 _ _ ?_
      refine gor hn ?_
      obtain ⟨x16, hx17, h9⟩ := bindM h9
      refine ownM hx17 ?_
      refine ldM (nthO_some hx17).2 ?_
      refine Exists.intro (List.map eInt (v5.set ((k4 : Int).toNat) (-1 : Int))) (And.intro (leLs_set (nthO_some hx17).2 (by repeat (first | exact trivial | exact rfl | (refine And.intro ?_ ?_)))) ?_)
      refine qn387 _ _ ?_
      refine qn384 _ _ ?_
      refine gor hn ?_
      refine Or.inl (And.intro (inrU hlt15 hrn) ?_)
      refine qn379 _ _ ?_
      refine EOk.done ?_
      exact ⟨⟨(n12, k4 + 1, (v5.set ((k4 : Int).toNat) (-1 : Int))), hd2, h9⟩, [], by show n12 < n12 + 1; omega, ⟨⟨rfl, rfl, rfl, rfl, rfl, trivial⟩, ⟨rfl, rfl, rfl, trivial⟩, rfl, rfl⟩⟩
  rintro ⟨v7, hv_⟩
  replace hv_ := hv_.symm
  subst hv_
  refine qn354 _ _ ?_
  refine COk.seqQ fun Q389 qn389 qx389 qr389 => ?_
  refine gor hn ?_
  refine Exists.intro (List.map eArr2Int [(⟨(0 : Int), (0 : Int)⟩ : Arr2Int)]) (And.intro (by repeat (first | exact trivial | exact rfl | (refine And.intro ?_ ?_))) ?_)
  refine qn389 _ _ ?_
  refine COk.seqQ fun Q390 qn390 qx390 qr390 => ?_
  obtain ⟨o24, h25, h⟩ := bindM h
  refine COk.joinR (ι := { s : (List Int) // o24 = Ctl.next s }) (fun s => [(3, .ptr 3 0), (4, .own 15)]) (fun s => [(3, .box [.int (0 : Int), .int (0 : Int)] 85), (15, .row 1 (List.map eInt s.1) 3)]) (fun Q622 qn622 qx622 qr622 => ?_) (by intro s; rw [hn]; rfl) ?_
  · refine COk.blkQ fun Q623 qn623 qe623 qx623 qr623 => ?_
    refine COk.loopQ (ι := { q : (Nat × (List Int) × (List Arr2Int)) // code_Heights_l2 N a0 q.1 q.2.1 q.2.2 = some o24 }) (fun q => [(1, .ptr 1 0), (3, .ptr 3 0), (4, .own 15), (6, .own 26)]) (fun q => [(1, .box (eMe a0) 74), (3, .box [.int (0 : Int), .int (0 : Int)] 85), (15, .row 1 (List.map eInt q.1.2.1) 3), (26, .row 2 (List.map eArr2Int q.1.2.2) 115)]) (fun q => q.1.1) ⟨(N, v7, [(⟨(0 : Int), (0 : Int)⟩ : Arr2Int)]), h25⟩ [] ⟨⟨rfl, rfl, rfl, rfl, trivial⟩, ⟨rfl, rfl, rfl, rfl, trivial⟩, rfl, rfl⟩ (by intro q; rw [hn]; rfl) ?_
    rintro ⟨⟨n_, v19, v20⟩, h25⟩ Q624 qn624 qx624 qr624
    rcases n_ with _ | n28
    · rw [code_Heights_l2.eq_1] at h25
      cases h25
    · replace h25 := (code_Heights_l2.eq_2 _ _ _ _ _).symm.trans h25
      refine COk.seqQ fun Q625 qn625 qx625 qr625 => ?_
      refine COk.seqQ fun Q626 qn626 qx626 qr626 => ?_
      refine gor hn ?_
      refine lenM (fun hl29 => ?_)
      refine qn626 _ _ ?_
      refine goc hn ?_
      refine bselM h25 (fun hb30 h25 => ?_) (fun hb30 h25 => ?_)
      · refine gok hn ?_
        refine qn625 _ _ ?_
        obtain ⟨o34, h33, h25⟩ := bindM h25
        refine COk.joinR (ι := { s : ((List Int) × (List Arr2Int)) // o34 = Ctl.next s }) (fun s => [(1, .ptr 1 0), (3, .ptr 3 0), (4, .own 15), (6, .own 39)]) (fun s => [(1, .box (eMe a0) 74), (3, .box [.int (0 : Int), .int (0 : Int)] 85), (15, .row 1 (List.map eInt s.1.1) 3), (39, .row 2 (List.map eArr2Int s.1.2) 115)]) (fun Q664 qn664 qx664 qr664 => ?_) (by intro s; rw [hn]; rfl) ?_
        · refine COk.blkQ fun Q665 qn665 qe665 qx665 qr665 => ?_
          refine COk.seqQ fun Q666 qn666 qx666 qr666 => ?_
          refine god hn (by kernel_rfl) ?_
          obtain ⟨x35, hx36, h33⟩ := bindM h33
          refine ownM hx36 ?_
          refine And.intro (by decide) (And.intro (by decide) ?_)
          refine ldM (nthO_some hx36).2 ?_
          obtain ⟨x37, hx38, h33⟩ := bindM h33
          refine ownM hx38 ?_
          refine And.intro (by decide) (And.intro (by decide) ?_)
          refine ldM (nthO_some hx38).2 ?_
          refine qn666 _ _ ?_
          refine COk.seqQ fun Q667 qn667 qx667 qr667 => ?_
          refine COk.sub (ts2 := [(1, .ptr 1 0), (3, .ptr 3 0), (4, .own 15), (6, .own 26), (7, .int x35.f0), (8, .int x37.f1)]) (os2 := [(1, .box (eMe a0) 74), (3, .box [.int (0 : Int), .int (0 : Int)] 85), (15, .row 1 (List.map eInt v19) 3), (26, .row 2 (List.map eArr2Int v20) 115)]) [] ⟨⟨rfl, rfl, rfl, rfl, rfl, rfl, trivial⟩, ⟨rfl, rfl, rfl, rfl, trivial⟩, rfl, rfl⟩ (by rw [hn]; rfl) ?_
          refine gor hn ?_
          obtain ⟨hg39, h33⟩ := guardM h33
          refine dropM hg39 rfl rfl ?_
          refine qn667 _ _ ?_
          refine COk.seqQ fun Q668 qn668 qx668 qr668 => ?_
          refine COk.seqQ fun Q669 qn669 qx669 qr669 => ?_
          obtain ⟨o42, h41, h33⟩ := bindM h33
          refine COk.joinR (ι := { s : Bool // o42 = s }) (fun s => [(1, .ptr 1 0), (3, .ptr 3 0), (4, .own 15), (6, .own 39), (7, .int x35.f0), (8, .int x37.f1), (48, .bool s.1)]) (fun s => [(1, .box (eMe a0) 74), (3, .box [.int (0 : Int), .int (0 : Int)] 85), (15, .row 1 (List.map eInt v19) 3), (39, .row 2 (List.map eArr2Int (v20.drop (1 : Int).toNat)) 115)]) (fun Q670 qn670 qx670 qr670 => ?_) (by intro s; rw [hn]; rfl) ?_
          · refine gor hn ?_
            refine bselM h41 (fun hb43 h41 => ?_) (fun hb43 h41 => ?_)
            · refine bselT hb43 ?_
              refine bselT hb43 ?_
              refine bselT hb43 ?_
              refine bselT hb43 ?_
              refine bselT hb43 ?_
              refine qn670 _ _ ?_
              obtain rfl := Option.some.inj h41
              refine EOk.done ?_
              exact ⟨⟨_, rfl⟩, [], trivial, ⟨⟨rfl, rfl, rfl, rfl, rfl, rfl, rfl, trivial⟩, ⟨rfl, rfl, rfl, rfl, trivial⟩, rfl, rfl⟩⟩
            · refine bselF hb43 ?_
              refine bselF hb43 ?_
              refine bselF hb43 ?_
              refine lenM (fun hl44 => ?_)
              refine bselF hb43 ?_
              refine bselF hb43 ?_
              refine qn670 _ _ ?_
              obtain rfl := Option.some.inj h41
              refine EOk.done ?_
              exact ⟨⟨_, rfl⟩, [], trivial, ⟨⟨rfl, rfl, rfl, rfl, rfl, rfl, rfl, trivial⟩, ⟨rfl, rfl, rfl, rfl, trivial⟩, rfl, rfl⟩⟩
          rintro ⟨v40, hv_⟩
          replace hv_ := hv_.symm
          subst hv_
          refine qn669 _ _ ?_
          refine goc hn ?_
          refine bselM h33 (fun hb45 h33 => ?_) (fun hb45 h33 => ?_)
          · refine COk.seqQ fun Q672 qn672 qx672 qr672 => ?_
            refine god hn (by kernel_rfl) ?_
            refine lenM (fun hl46 => ?_)
            refine qn672 _ _ ?_
            refine COk.nilrow 2 202 1 3 rfl rfl rfl ?_
            refine got hn ?_
            refine qr668 _ _ ?_
            refine qr665 _ _ ?_
            refine qr664 _ _ ?_
            refine qr624 _ _ ?_
            refine qr623 _ _ ?_
            refine qr622 _ _ ?_
            refine qr390 _ _ ?_
            obtain rfl := Option.some.inj h33
            obtain rfl := Option.some.inj h25
            obtain rfl := Option.some.inj h
            exact ⟨[(0, 202)], _, rfl, (by repeat (first | exact trivial | exact rfl | (refine And.intro ?_ ?_))), ⟨rfl, trivial⟩, rfl, rfl, rfl, rfl, rfl⟩
          · refine gok hn ?_
            refine qn668 _ _ ?_
            refine COk.seqQ fun Q673 qn673 qx673 qr673 => ?_
            refine COk.seqQ fun Q674 qn674 qx674 qr674 => ?_
            refine gor hn ?_
            obtain ⟨x47, hx48, h33⟩ := bindM h33
            refine ownM hx48 ?_
            refine ldM (nthO_some hx48).2 ?_
            refine qn674 _ _ ?_
            refine goc hn ?_
            refine bselM h33 (fun hb49 h33 => ?_) (fun hb49 h33 => ?_)
            · refine COk.seqQ fun Q679 qn679 qx679 qr679 => ?_
              refine COk.seqQ fun Q680 qn680 qx680 qr680 => ?_
              refine gor hn ?_
              obtain ⟨x50, hx51, h33⟩ := bindM h33
              refine ownM hx51 ?_
              refine ldM (nthO_some hx51).2 ?_
              refine qn680 _ _ ?_
              refine goc hn ?_
              refine bselM h33 (fun hb52 h33 => ?_) (fun hb52 h33 => ?_)
              · refine COk.seqQ fun Q681 qn681 qx681 qr681 => ?_
                refine COk.sub (ts2 := [(3, .ptr 3 0), (7, .int x35.f0)]) (os2 := [(3, .box [.int (0 : Int), .int (0 : Int)] 85)]) [] ⟨⟨rfl, rfl, trivial⟩, ⟨rfl, trivial⟩, rfl, rfl⟩ (by rw [hn]; rfl) ?_
                refine gor hn ?_
                refine qn681 _ _ ?_
                refine COk.nilrow 2 202 1 3 rfl rfl rfl ?_
                refine got hn ?_
                refine qr679 _ _ ?_
                refine qr673 _ _ ?_
                refine qr665 _ _ ?_
                refine qr664 _ _ ?_
                refine qr624 _ _ ?_
                refine qr623 _ _ ?_
                refine qr622 _ _ ?_
                refine qr390 _ _ ?_
                obtain rfl := Option.some.inj h33
                obtain rfl := Option.some.inj h25
                obtain rfl := Option.some.inj h
                exact ⟨[(0, 202)], _, rfl, (by repeat (first | exact trivial | exact rfl | (refine And.intro ?_ ?_))), ⟨rfl, trivial⟩, rfl, rfl, rfl, rfl, rfl⟩
              · refine gok hn ?_
                refine qn679 _ _ ?_
                refine goe hn ?_
                refine qx673 _ _ _ ?_
                refine qe665 _ _ ?_
                refine qn664 _ _ ?_
                obtain rfl := Option.some.inj h33
                refine EOk.done ?_
                exact ⟨⟨_, rfl⟩, [], trivial, ⟨⟨rfl, rfl, rfl, rfl, trivial⟩, ⟨rfl, rfl, rfl, rfl, trivial⟩, rfl, rfl⟩⟩
            · refine gok hn ?_
              refine qn673 _ _ ?_
              refine COk.seqQ fun Q682 qn682 qx682 qr682 => ?_
              refine gor hn ?_
              obtain ⟨x53, hx54, h33⟩ := bindM h33
              refine ownM hx54 ?_
              refine ldM (nthO_some hx54).2 ?_
              refine Exists.intro (List.map eInt (v19.set x35.f0.toNat x37.f1)) (And.intro (leLs_set (nthO_some hx54).2 (by repeat (first | exact trivial | exact rfl | (refine And.intro ?_ ?_)))) ?_)
              refine qn682 _ _ ?_
              refine COk.seqQ fun Q683 qn683 qx683 qr683 => ?_
              refine gor hn ?_
              obtain ⟨x55, hx56, h33⟩ := bindM h33
              refine idxM hx56 ?_
              refine qn683 _ _ ?_
              refine COk.seqQ fun Q684 qn684 qx684 qr684 => ?_
              refine COk.sub (ts2 := [(1, .ptr 1 0), (3, .ptr 3 0), (4, .own 15), (6, .own 39), (7, .int x35.f0), (8, .int x37.f1), (9, .ptr 9 0)]) (os2 := [(1, .box (eMe a0) 74), (3, .box [.int (0 : Int), .int (0 : Int)] 85), (9, .box (eIns x55) 81), (15, .row 1 (List.map eInt (v19.set x35.f0.toNat x37.f1)) 3), (39, .row 2 (List.map eArr2Int (v20.drop (1 : Int).toNat)) 115)]) [] ⟨⟨rfl, rfl, rfl, rfl, rfl, rfl, rfl, trivial⟩, ⟨rfl, rfl, rfl, rfl, rfl, trivial⟩, rfl, rfl⟩ (by rw [hn]; rfl) ?_
              refine gor hn ?_
              obtain ⟨r57, hr58, h33⟩ := bindM h33
              show CallOk Try.prog _ _ _ _
              refine CallOk.as (code_effect_ok N x55 r57 hr58) (by repeat (first | exact trivial | exact rfl | (refine And.intro ?_ ?_))) trivial rfl ?_
              refine qn684 _ _ ?_
              refine COk.seqQ fun Q685 qn685 qx685 qr685 => ?_
              refine COk.seqQ fun Q686 qn686 qx686 qr686 => ?_
              obtain ⟨o61, h60, h33⟩ := bindM h33
              refine COk.joinR (ι := { s : Bool // o61 = s }) (fun s => [(1, .ptr 1 0), (3, .ptr 3 0), (4, .own 15), (6, .own 39), (7, .int x35.f0), (8, .int x37.f1), (9, .ptr 9 0), (10, .int r57.1), (11, .int r57.2), (91, .bool s.1)]) (fun s => [(1, .box (eMe a0) 74), (3, .box [.int (0 : Int), .int (0 : Int)] 85), (9, .box (eIns x55) 81), (15, .row 1 (List.map eInt (v19.set x35.f0.toNat x37.f1)) 3), (39, .row 2 (List.map eArr2Int (v20.drop (1 : Int).toNat)) 115)]) (fun Q687 qn687 qx687 qr687 => ?_) (by intro s; rw [hn]; rfl) ?_
              · refine gor hn ?_
                refine bselM h60 (fun hb62 h60 => ?_) (fun hb62 h60 => ?_)
                · refine bselT hb62 ?_
                  refine bselT hb62 ?_
                  refine bselT hb62 ?_
                  refine bselT hb62 ?_
                  refine bselT hb62 ?_
                  refine qn687 _ _ ?_
                  obtain rfl := Option.some.inj h60
                  refine EOk.done ?_
                  exact ⟨⟨_, rfl⟩, [], trivial, ⟨⟨rfl, rfl, rfl, rfl, rfl, rfl, rfl, rfl, rfl, rfl, trivial⟩, ⟨rfl, rfl, rfl, rfl, rfl, trivial⟩, rfl, rfl⟩⟩
                · refine bselF hb62 ?_
                  refine bselF hb62 ?_
                  refine bselF hb62 ?_
                  refine bselM h60 (fun hb63 h60 => ?_) (fun hb63 h60 => ?_)
                  · refine bselT hb63 ?_
                    refine bselF hb62 ?_
                    refine bselT hb63 ?_
                    refine bselF hb62 ?_
                    refine qn687 _ _ ?_
                    obtain rfl := Option.some.inj h60
                    refine EOk.done ?_
                    exact ⟨⟨_, rfl⟩, [], trivial, ⟨⟨rfl, rfl, rfl, rfl, rfl, rfl, rfl, rfl, rfl, rfl, trivial⟩, ⟨rfl, rfl, rfl, rfl, rfl, trivial⟩, rfl, rfl⟩⟩
                  · refine bselF hb63 ?_
                    refine bselF hb62 ?_
                    refine bselF hb63 ?_
                    refine bselF hb62 ?_
                    refine qn687 _ _ ?_
                    obtain rfl := Option.some.inj h60
                    refine EOk.done ?_
                    exact ⟨⟨_, rfl⟩, [], trivial, ⟨⟨rfl, rfl, rfl, rfl, rfl, rfl, rfl, rfl, rfl, rfl, trivial⟩, ⟨rfl, rfl, rfl, rfl, rfl, trivial⟩, rfl, rfl⟩⟩
              rintro ⟨v59, hv_⟩
              replace hv_ := hv_.symm
              subst hv_
              refine qn686 _ _ ?_
              refine goc hn ?_
              refine bselM h33 (fun hb64 h33 => ?_) (fun hb64 h33 => ?_)
              · refine COk.seqQ fun Q689 qn689 qx689 qr689 => ?_
                refine gor hn ?_
                refine qn689 _ _ ?_
                refine COk.nilrow 2 202 1 3 rfl rfl rfl ?_
                refine got hn ?_
                refine qr685 _ _ ?_
                refine qr665 _ _ ?_
                refine qr664 _ _ ?_
                refine qr624 _ _ ?_
                refine qr623 _ _ ?_
                refine qr622 _ _ ?_
                refine qr390 _ _ ?_
                obtain rfl := Option.some.inj h33
                obtain rfl := Option.some.inj h25
                obtain rfl := Option.some.inj h
                exact ⟨[(0, 202)], _, rfl, (by repeat (first | exact trivial | exact rfl | (refine And.intro ?_ ?_))), ⟨rfl, trivial⟩, rfl, rfl, rfl, rfl, rfl⟩
              · refine gok hn ?_
                refine qn685 _ _ ?_
                refine COk.seqQ fun Q690 qn690 qx690 qr690 => ?_
                refine gor hn ?_
                refine Or.inr ?_
                refine Or.inr ?_
                refine qn690 _ _ ?_
                refine COk.seqQ fun Q691 qn691 qx691 qr691 => ?_
                refine COk.seqQ fun Q692 qn692 qx692 qr692 => ?_
                refine gor hn ?_
                refine qn692 _ _ ?_
                refine goc hn ?_
                refine bselM h33 (fun hb65 h33 => ?_) (fun hb65 h33 => ?_)
                · refine COk.seqQ fun Q694 qn694 qx694 qr694 => ?_
                  refine COk.sub (ts2 := [(3, .ptr 3 0), (7, .int x35.f0)]) (os2 := [(3, .box [.int (0 : Int), .int (0 : Int)] 85)]) [] ⟨⟨rfl, rfl, trivial⟩, ⟨rfl, trivial⟩, rfl, rfl⟩ (by rw [hn]; rfl) ?_
                  refine gor hn ?_
                  refine qn694 _ _ ?_
                  refine COk.nilrow 2 202 1 3 rfl rfl rfl ?_
                  refine got hn ?_
                  refine qr691 _ _ ?_
                  refine qr665 _ _ ?_
                  refine qr664 _ _ ?_
                  refine qr624 _ _ ?_
                  refine qr623 _ _ ?_
                  refine qr622 _ _ ?_
                  refine qr390 _ _ ?_
                  obtain rfl := Option.some.inj h33
                  obtain rfl := Option.some.inj h25
                  obtain rfl := Option.some.inj h
                  exact ⟨[(0, 202)], _, rfl, (by repeat (first | exact trivial | exact rfl | (refine And.intro ?_ ?_))), ⟨rfl, trivial⟩, rfl, rfl, rfl, rfl, rfl⟩
                · refine gok hn ?_
                  refine qn691 _ _ ?_
                  refine COk.seqQ fun Q695 qn695 qx695 qr695 => ?_
                  refine COk.seqQ fun Q696 qn696 qx696 qr696 => ?_
                  obtain ⟨o68, h67, h33⟩ := bindM h33
                  refine COk.joinR (ι := { s : Bool // o68 = s }) (fun s => [(1, .ptr 1 0), (3, .ptr 3 0), (4, .own 15), (6, .own 39), (7, .int x35.f0), (8, .int (wr (x37.f1 + (wr (r57.2 - r57.1))))), (9, .ptr 9 0), (110, .bool s.1)]) (fun s => [(1, .box (eMe a0) 74), (3, .box [.int (0 : Int), .int (0 : Int)] 85), (9, .box (eIns x55) 81), (15, .row 1 (List.map eInt (v19.set x35.f0.toNat x37.f1)) 3), (39, .row 2 (List.map eArr2Int (v20.drop (1 : Int).toNat)) 115)]) (fun Q697 qn697 qx697 qr697 => ?_) (by intro s; rw [hn]; rfl) ?_
                  · refine COk.sub (ts2 := [(1, .ptr 1 0), (3, .ptr 3 0), (4, .own 15), (6, .own 39), (7, .int x35.f0), (8, .int (wr (x37.f1 + (wr (r57.2 - r57.1))))), (9, .ptr 9 0)]) (os2 := [(1, .box (eMe a0) 74), (3, .box [.int (0 : Int), .int (0 : Int)] 85), (9, .box (eIns x55) 81), (15, .row 1 (List.map eInt (v19.set x35.f0.toNat x37.f1)) 3), (39, .row 2 (List.map eArr2Int (v20.drop (1 : Int).toNat)) 115)]) [] ⟨⟨rfl, rfl, rfl, rfl, rfl, rfl, rfl, trivial⟩, ⟨rfl, rfl, rfl, rfl, rfl, trivial⟩, rfl, rfl⟩ (by rw [hn]; rfl) ?_
                    refine gor hn ?_
                    refine bselM h67 (fun hb69 h67 => ?_) (fun hb69 h67 => ?_)
                    · refine bselT hb69 ?_
                      refine bselT hb69 ?_
                      refine bselT hb69 ?_
                      refine qn697 _ _ ?_
                      obtain rfl := Option.some.inj h67
                      refine EOk.done ?_
                      exact ⟨⟨_, rfl⟩, [], trivial, ⟨⟨rfl, rfl, rfl, rfl, rfl, rfl, rfl, rfl, trivial⟩, ⟨rfl, rfl, rfl, rfl, rfl, trivial⟩, rfl, rfl⟩⟩
                    · refine bselF hb69 ?_
                      refine bselF hb69 ?_
                      refine bselF hb69 ?_
                      refine qn697 _ _ ?_
                      obtain rfl := Option.some.inj h67
                      refine EOk.done ?_
                      exact ⟨⟨_, rfl⟩, [], trivial, ⟨⟨rfl, rfl, rfl, rfl, rfl, rfl, rfl, rfl, trivial⟩, ⟨rfl, rfl, rfl, rfl, rfl, trivial⟩, rfl, rfl⟩⟩
                  rintro ⟨v66, hv_⟩
                  replace hv_ := hv_.symm
                  subst hv_
                  refine qn696 _ _ ?_
                  obtain ⟨o72, h71, h33⟩ := bindM h33
                  refine COk.joinR (ι := { s : (List Arr2Int) // o72 = s }) (fun s => [(1, .ptr 1 0), (3, .ptr 3 0), (4, .own 15), (6, .own 117), (8, .int (wr (x37.f1 + (wr (r57.2 - r57.1))))), (9, .ptr 9 0)]) (fun s => [(1, .box (eMe a0) 74), (3, .box [.int (0 : Int), .int (0 : Int)] 85), (9, .box (eIns x55) 81), (15, .row 1 (List.map eInt (v19.set x35.f0.toNat x37.f1)) 3), (117, .row 2 (List.map eArr2Int s.1) 115)]) (fun Q698 qn698 qx698 qr698 => ?_) (by intro s; rw [hn]; rfl) ?_
                  · refine goc hn ?_
                    refine bselM h71 (fun hb73 h71 => ?_) (fun hb73 h71 => ?_)
                    · refine gor hn ?_
                      refine Or.inr ?_
                      refine Exists.intro (List.map eArr2Int [(⟨(wr (x35.f0 + (1 : Int))), (wr (x37.f1 + (wr (r57.2 - r57.1))))⟩ : Arr2Int)]) (And.intro (by repeat (first | exact trivial | exact rfl | (refine And.intro ?_ ?_))) ?_)
                      obtain ⟨hg74, h71⟩ := guardM h71
                      refine appM (l2 := [(⟨(wr (x35.f0 + (1 : Int))), (wr (x37.f1 + (wr (r57.2 - r57.1))))⟩ : Arr2Int)]) hg74 (leLs_refl _) ?_
                      refine qn698 _ _ ?_
                      obtain rfl := Option.some.inj h71
                      refine EOk.done ?_
                      exact ⟨⟨_, rfl⟩, [], trivial, ⟨⟨rfl, rfl, rfl, rfl, rfl, rfl, trivial⟩, ⟨rfl, rfl, rfl, rfl, rfl, trivial⟩, rfl, rfl⟩⟩
                    · refine gok hn ?_
                      refine qn698 _ _ ?_
                      obtain rfl := Option.some.inj h71
                      refine EOk.done ?_
                      exact ⟨⟨_, rfl⟩, [(117, 39)], trivial, ⟨⟨rfl, rfl, rfl, rfl, rfl, rfl, trivial⟩, ⟨rfl, rfl, rfl, rfl, rfl, trivial⟩, rfl, rfl⟩⟩
                  rintro ⟨v70, hv_⟩
                  replace hv_ := hv_.symm
                  subst hv_
                  refine qn695 _ _ ?_
                  refine COk.seqQ fun Q699 qn699 qx699 qr699 => ?_
                  obtain ⟨o77, h76, h33⟩ := bindM h33
                  refine COk.joinR (ι := { s : Bool // o77 = s }) (fun s => [(1, .ptr 1 0), (3, .ptr 3 0), (4, .own 15), (6, .own 117), (8, .int (wr (x37.f1 + (wr (r57.2 - r57.1))))), (9, .ptr 9 0), (125, .bool s.1)]) (fun s => [(1, .box (eMe a0) 74), (3, .box [.int (0 : Int), .int (0 : Int)] 85), (9, .box (eIns x55) 81), (15, .row 1 (List.map eInt (v19.set x35.f0.toNat x37.f1)) 3), (117, .row 2 (List.map eArr2Int v70) 115)]) (fun Q700 qn700 qx700 qr700 => ?_) (by intro s; rw [hn]; rfl) ?_
                  · refine gor hn ?_
                    refine bselM h76 (fun hb78 h76 => ?_) (fun hb78 h76 => ?_)
                    · refine bselT hb78 ?_
                      refine bselT hb78 ?_
                      refine bselT hb78 ?_
                      refine qn700 _ _ ?_
                      obtain rfl := Option.some.inj h76
                      refine EOk.done ?_
                      exact ⟨⟨_, rfl⟩, [], trivial, ⟨⟨rfl, rfl, rfl, rfl, rfl, rfl, rfl, trivial⟩, ⟨rfl, rfl, rfl, rfl, rfl, trivial⟩, rfl, rfl⟩⟩
                    · refine bselF hb78 ?_
                      refine bselF hb78 ?_
                      refine bselF hb78 ?_
                      refine qn700 _ _ ?_
                      obtain rfl := Option.some.inj h76
                      refine EOk.done ?_
                      exact ⟨⟨_, rfl⟩, [], trivial, ⟨⟨rfl, rfl, rfl, rfl, rfl, rfl, rfl, trivial⟩, ⟨rfl, rfl, rfl, rfl, rfl, trivial⟩, rfl, rfl⟩⟩
                  rintro ⟨v75, hv_⟩
                  replace hv_ := hv_.symm
                  subst hv_
                  refine qn699 _ _ ?_
                  obtain ⟨o81, h80, h33⟩ := bindM h33
                  refine COk.joinR (ι := { s : (List Arr2Int) // o81 = s }) (fun s => [(1, .ptr 1 0), (3, .ptr 3 0), (4, .own 15), (6, .own 132)]) (fun s => [(1, .box (eMe a0) 74), (3, .box [.int (0 : Int), .int (0 : Int)] 85), (15, .row 1 (List.map eInt (v19.set x35.f0.toNat x37.f1)) 3), (132, .row 2 (List.map eArr2Int s.1) 115)]) (fun Q701 qn701 qx701 qr701 => ?_) (by intro s; rw [hn]; rfl) ?_
                  · refine goc hn ?_
                    refine bselM h80 (fun hb82 h80 => ?_) (fun hb82 h80 => ?_)
                    · refine gor hn ?_
                      refine Exists.intro (List.map eArr2Int [(⟨x55.a, (wr (x37.f1 + (wr (r57.2 - r57.1))))⟩ : Arr2Int)]) (And.intro (by repeat (first | exact trivial | exact rfl | (refine And.intro ?_ ?_))) ?_)
                      obtain ⟨hg83, h80⟩ := guardM h80
                      refine appM (l2 := [(⟨x55.a, (wr (x37.f1 + (wr (r57.2 - r57.1))))⟩ : Arr2Int)]) hg83 (leLs_refl _) ?_
                      refine qn701 _ _ ?_
                      obtain rfl := Option.some.inj h80
                      refine EOk.done ?_
                      exact ⟨⟨_, rfl⟩, [], trivial, ⟨⟨rfl, rfl, rfl, rfl, trivial⟩, ⟨rfl, rfl, rfl, rfl, trivial⟩, rfl, rfl⟩⟩
                    · refine gok hn ?_
                      refine qn701 _ _ ?_
                      obtain rfl := Option.some.inj h80
                      refine EOk.done ?_
                      exact ⟨⟨_, rfl⟩, [(132, 117)], trivial, ⟨⟨rfl, rfl, rfl, rfl, trivial⟩, ⟨rfl, rfl, rfl, rfl, trivial⟩, rfl, rfl⟩⟩
                  rintro ⟨v79, hv_⟩
                  replace hv_ := hv_.symm
                  subst hv_
                  refine qn665 _ _ ?_
                  refine qn664 _ _ ?_
                  obtain rfl := Option.some.inj h33
                  refine EOk.done ?_
                  exact ⟨⟨_, rfl⟩, [(39, 132)], trivial, ⟨⟨rfl, rfl, rfl, rfl, trivial⟩, ⟨rfl, rfl, rfl, rfl, trivial⟩, rfl, rfl⟩⟩
        rintro ⟨⟨v31, v32⟩, rfl⟩
        refine qn624 _ _ ?_
        refine EOk.done ?_
        exact ⟨⟨(n28, v31, v32), h25⟩, [(26, 39)], by show n28 < n28 + 1; omega, ⟨⟨rfl, rfl, rfl, rfl, trivial⟩, ⟨rfl, rfl, rfl, rfl, trivial⟩, rfl, rfl⟩⟩
      · refine goe hn ?_
        refine qx625 _ _ _ ?_
        refine qx624 _ _ _ ?_
        refine qe623 _ _ ?_
        refine qn622 _ _ ?_
        obtain rfl := Option.some.inj h25
        refine EOk.done ?_
        exact ⟨⟨_, rfl⟩, [], trivial, ⟨⟨rfl, rfl, trivial⟩, ⟨rfl, rfl, trivial⟩, rfl, rfl⟩⟩
  rintro ⟨v23, rfl⟩
  refine qn390 _ _ ?_
  refine COk.seqQ fun Q702 qn702 qx702 qr702 => ?_
  refine gor hn ?_
  refine qn702 _ _ ?_
  refine got hn ?_
  obtain rfl := Option.some.inj h
  exact ⟨[(0, 15)], _, rfl, (by repeat (first | exact trivial | exact rfl | (refine And.intro ?_ ?_))), ⟨rfl, trivial⟩, rfl, rfl, rfl, rfl, rfl⟩

/- code.Check -/
set_option maxRecDepth 100000 in
set_option maxHeartbeats 1000000 in
theorem code_Check_ok (N : Nat) (a0 : Wd) (a1 : Int) (a2 : Me) (r : TFault) (h : code_Check N a0 a1 a2 = some r) : Spec Try.prog 48 [] [.agg (eWd a0), .int a1, .agg (eMe a2)] (.agg (eTFault r)) [] [] := by
  refine Spec.of tabOk Try.func48 rfl Try.ntmps48 (by kernel_rfl) rfl rfl rfl fun Γ hn => ?_
  unfold code_Check at h
  refine COk.seqQ fun Q121 qn121 qx121 qr121 => ?_
  refine gor hn ?_
  refine qn121 _ _ ?_
  refine COk.seqQ fun Q122 qn122 qx122 qr122 => ?_
  refine COk.blkQ fun Q168 qn168 qe168 qx168 qr168 => ?_
  refine COk.seqQ fun Q169 qn169 qx169 qr169 => ?_
  obtain ⟨o3, h2, h⟩ := bindM h
  refine COk.joinR (ι := { s : Bool // o3 = s }) (fun s => [(1, .int a1), (3, .ptr 3 0), (5, .ptr 5 0), (6, .ptr 6 0), (12, .bool s.1)]) (fun s => [(3, .box (eWd a0) 55), (5, .box (eMe a2) 74), (6, .box [.int (0 : Int), .int (0 : Int)] 85)]) (fun Q170 qn170 qx170 qr170 => ?_) (by intro s; rw [hn]; rfl) ?_
  · refine gor hn ?_
    refine bselM h2 (fun hb4 h2 => ?_) (fun hb4 h2 => ?_)
    · refine bselT hb4 ?_
      refine bselT hb4 ?_
      refine bselT hb4 ?_
      refine bselT hb4 ?_
      refine bselT hb4 ?_
      refine qn170 _ _ ?_
      obtain rfl := Option.some.inj h2
      refine EOk.done ?_
      exact ⟨⟨_, rfl⟩, [], trivial, ⟨⟨rfl, rfl, rfl, rfl, rfl, trivial⟩, ⟨rfl, rfl, rfl, trivial⟩, rfl, rfl⟩⟩
    · refine bselF hb4 ?_
      refine bselF hb4 ?_
      refine bselF hb4 ?_
      refine lenM (fun hl5 => ?_)
      refine bselF hb4 ?_
      refine bselF hb4 ?_
      refine qn170 _ _ ?_
      obtain rfl := Option.some.inj h2
      refine EOk.done ?_
      exact ⟨⟨_, rfl⟩, [], trivial, ⟨⟨rfl, rfl, rfl, rfl, rfl, trivial⟩, ⟨rfl, rfl, rfl, trivial⟩, rfl, rfl⟩⟩
  rintro ⟨v1, hv_⟩
  replace hv_ := hv_.symm
  subst hv_
  refine qn169 _ _ ?_
  refine goc hn ?_
  refine bselM h (fun hb6 h => ?_) (fun hb6 h => ?_)
  · refine COk.seqQ fun Q171 qn171 qx171 qr171 => ?_
    refine gor hn ?_
    refine qn171 _ _ ?_
    refine got hn ?_
    refine qr168 _ _ ?_
    refine qr122 _ _ ?_
    obtain rfl := Option.some.inj h
    exact ⟨[], _, rfl, (by repeat (first | exact trivial | exact rfl | (refine And.intro ?_ ?_))), trivial, rfl, rfl, rfl, rfl, rfl⟩
  · refine COk.seqQ fun Q172 qn172 qx172 qr172 => ?_
    refine gor hn ?_
    obtain ⟨r7, hr8, h⟩ := bindM h
    show CallOk Try.prog _ _ _ _
    refine CallOk.as (class_Name_ok N a2.name r7 hr8) (by repeat (first | exact trivial | exact rfl | (refine And.intro ?_ ?_))) trivial rfl ?_
    refine qn172 _ _ ?_
    refine goc hn ?_
    refine bselM h (fun hb9 h => ?_) (fun hb9 h => ?_)
    · refine COk.seqQ fun Q173 qn173 qx173 qr173 => ?_
      refine gor hn ?_
      refine qn173 _ _ ?_
      refine got hn ?_
      refine qr168 _ _ ?_
      refine qr122 _ _ ?_
      obtain rfl := Option.some.inj h
      exact ⟨[], _, rfl, (by repeat (first | exact trivial | exact rfl | (refine And.intro ?_ ?_))), trivial, rfl, rfl, rfl, rfl, rfl⟩
    · refine COk.seqQ fun Q174 qn174 qx174 qr174 => ?_
      obtain ⟨o12, h11, h⟩ := bindM h
      refine COk.joinR (ι := { s : Bool // o12 = s }) (fun s => [(1, .int a1), (3, .ptr 3 0), (5, .ptr 5 0), (6, .ptr 6 0), (29, .bool s.1)]) (fun s => [(3, .box (eWd a0) 55), (5, .box (eMe a2) 74), (6, .box [.int (0 : Int), .int (0 : Int)] 85)]) (fun Q175 qn175 qx175 qr175 => ?_) (by intro s; rw [hn]; rfl) ?_
      · refine gor hn ?_
        refine bselM h11 (fun hb13 h11 => ?_) (fun hb13 h11 => ?_)
        · refine bselT hb13 ?_
          refine bselT hb13 ?_
          refine bselT hb13 ?_
          refine qn175 _ _ ?_
          obtain rfl := Option.some.inj h11
          refine EOk.done ?_
          exact ⟨⟨_, rfl⟩, [], trivial, ⟨⟨rfl, rfl, rfl, rfl, rfl, trivial⟩, ⟨rfl, rfl, rfl, trivial⟩, rfl, rfl⟩⟩
        · refine bselF hb13 ?_
          refine bselF hb13 ?_
          refine bselF hb13 ?_
          refine bselM h11 (fun hb14 h11 => ?_) (fun hb14 h11 => ?_)
          · refine bselT hb14 ?_
            refine bselT hb14 ?_
            refine bselT hb14 ?_
            refine qn175 _ _ ?_
            obtain rfl := Option.some.inj h11
            refine EOk.done ?_
            exact ⟨⟨_, rfl⟩, [], trivial, ⟨⟨rfl, rfl, rfl, rfl, rfl, trivial⟩, ⟨rfl, rfl, rfl, trivial⟩, rfl, rfl⟩⟩
          · refine bselF hb14 ?_
            refine bselF hb14 ?_
            refine bselF hb14 ?_
            refine bselM h11 (fun hb15 h11 => ?_) (fun hb15 h11 => ?_)
            · refine bselT hb15 ?_
              refine bselT hb15 ?_
              refine bselT hb15 ?_
              refine qn175 _ _ ?_
              obtain rfl := Option.some.inj h11
              refine EOk.done ?_
              exact ⟨⟨_, rfl⟩, [], trivial, ⟨⟨rfl, rfl, rfl, rfl, rfl, trivial⟩, ⟨rfl, rfl, rfl, trivial⟩, rfl, rfl⟩⟩
            · refine bselF hb15 ?_
              refine bselF hb15 ?_
              refine bselF hb15 ?_
              refine qn175 _ _ ?_
              obtain rfl := Option.some.inj h11
              refine EOk.done ?_
              exact ⟨⟨_, rfl⟩, [], trivial, ⟨⟨rfl, rfl, rfl, rfl, rfl, trivial⟩, ⟨rfl, rfl, rfl, trivial⟩, rfl, rfl⟩⟩
      rintro ⟨v10, hv_⟩
      replace hv_ := hv_.symm
      subst hv_
      refine qn174 _ _ ?_
      refine goc hn ?_
      refine bselM h (fun hb16 h => ?_) (fun hb16 h => ?_)
      · refine COk.seqQ fun Q176 qn176 qx176 qr176 => ?_
        refine gor hn ?_
        refine qn176 _ _ ?_
        refine got hn ?_
        refine qr168 _ _ ?_
        refine qr122 _ _ ?_
        obtain rfl := Option.some.inj h
        exact ⟨[], _, rfl, (by repeat (first | exact trivial | exact rfl | (refine And.intro ?_ ?_))), trivial, rfl, rfl, rfl, rfl, rfl⟩
      · refine COk.seqQ fun Q177 qn177 qx177 qr177 => ?_
        refine gor hn ?_
        refine qn177 _ _ ?_
        refine goc hn ?_
        refine bselM h (fun hb17 h => ?_) (fun hb17 h => ?_)
        · refine COk.seqQ fun Q178 qn178 qx178 qr178 => ?_
          refine gor hn ?_
          refine qn178 _ _ ?_
          refine got hn ?_
          refine qr168 _ _ ?_
          refine qr122 _ _ ?_
          obtain rfl := Option.some.inj h
          exact ⟨[], _, rfl, (by repeat (first | exact trivial | exact rfl | (refine And.intro ?_ ?_))), trivial, rfl, rfl, rfl, rfl, rfl⟩
        · refine COk.seqQ fun Q179 qn179 qx179 qr179 => ?_
          obtain ⟨o20, h19, h⟩ := bindM h
          refine COk.joinR (ι := { s : Bool // o20 = s }) (fun s => [(1, .int a1), (3, .ptr 3 0), (5, .ptr 5 0), (6, .ptr 6 0), (54, .bool s.1)]) (fun s => [(3, .box (eWd a0) 55), (5, .box (eMe a2) 74), (6, .box [.int (0 : Int), .int (0 : Int)] 85)]) (fun Q180 qn180 qx180 qr180 => ?_) (by intro s; rw [hn]; rfl) ?_
          · refine gor hn ?_
            refine lenM (fun hl21 => ?_)
            refine bselM h19 (fun hb22 h19 => ?_) (fun hb22 h19 => ?_)
            · refine bselT hb22 ?_
              refine bselT hb22 ?_
              refine bselT hb22 ?_
              refine bselT hb22 ?_
              refine qn180 _ _ ?_
              obtain rfl := Option.some.inj h19
              refine EOk.done ?_
              exact ⟨⟨_, rfl⟩, [], trivial, ⟨⟨rfl, rfl, rfl, rfl, rfl, trivial⟩, ⟨rfl, rfl, rfl, trivial⟩, rfl, rfl⟩⟩
            · refine bselF hb22 ?_
              refine bselF hb22 ?_
              refine lenM (fun hl23 => ?_)
              refine bselF hb22 ?_
              refine bselF hb22 ?_
              refine qn180 _ _ ?_
              obtain rfl := Option.some.inj h19
              refine EOk.done ?_
              exact ⟨⟨_, rfl⟩, [], trivial, ⟨⟨rfl, rfl, rfl, rfl, rfl, trivial⟩, ⟨rfl, rfl, rfl, trivial⟩, rfl, rfl⟩⟩
          rintro ⟨v18, hv_⟩
          replace hv_ := hv_.symm
          subst hv_
          refine qn179 _ _ ?_
          refine goc hn ?_
          refine bselM h (fun hb24 h => ?_) (fun hb24 h => ?_)
          · refine COk.seqQ fun Q181 qn181 qx181 qr181 => ?_
            refine gor hn ?_
            refine qn181 _ _ ?_
            refine got hn ?_
            refine qr168 _ _ ?_
            refine qr122 _ _ ?_
            obtain rfl := Option.some.inj h
            exact ⟨[], _, rfl, (by repeat (first | exact trivial | exact rfl | (refine And.intro ?_ ?_))), trivial, rfl, rfl, rfl, rfl, rfl⟩
          · refine gok hn ?_
            refine qn168 _ _ ?_
            refine qn122 _ _ ?_
            refine COk.seqQ fun Q182 qn182 qx182 qr182 => ?_
            refine COk.seqQ fun Q183 qn183 qx183 qr183 => ?_
            refine gor hn ?_
            refine lenM (fun hl25 => ?_)
            refine qn183 _ _ ?_
            refine COk.gh (Gh.fzBox 3 3 rfl rfl rfl) (fun _ => ?_)
            refine COk.gh (Gh.fzBox 5 5 rfl rfl rfl) (fun _ => ?_)
            obtain ⟨o27, h28, h⟩ := bindM h
            refine COk.joinR (ι := { s : Unit // o27 = Ctl.next s }) (fun s => [(5, .fp (eMe a2)), (6, .ptr 6 0)]) (fun s => [(6, .box [.int (0 : Int), .int (0 : Int)] 85)]) (fun Q220 qn220 qx220 qr220 => ?_) (by intro s; rw [hn]; rfl) ?_
            · refine COk.blkQ fun Q221 qn221 qe221 qx221 qr221 => ?_
              refine COk.loopQ (ι := { q : ((List Ins) × Nat) // q.1 = a2.code.drop q.2 ∧ code_Check_l1 N a0 a1 a2 q.1 q.2 = some o27 }) (fun q => [(1, .int a1), (3, .fp (eWd a0)), (5, .fp (eMe a2)), (6, .ptr 6 0), (67, .sl 5 (List.map eIns a2.code)), (68, .int (a2.code.length : Int)), (69, .int (q.1.2 : Int))]) (fun q => [(6, .box [.int (0 : Int), .int (0 : Int)] 85)]) (fun q => q.1.1.length) ⟨(a2.code, 0), rfl, h28⟩ [] ⟨⟨rfl, (by repeat (first | exact trivial | exact rfl | (refine And.intro ?_ ?_))), (by repeat (first | exact trivial | exact rfl | (refine And.intro ?_ ?_))), rfl, (by repeat (first | exact trivial | exact rfl | (refine And.intro ?_ ?_))), rfl, rfl, trivial⟩, ⟨rfl, trivial⟩, rfl, rfl⟩ (by intro q; rw [hn]; rfl) ?_
              rintro ⟨⟨rest_, k26⟩, hd30, h28⟩ Q222 qn222 qx222 qr222
              replace hd30 : rest_ = a2.code.drop k26 := hd30
              rcases rest_ with _ | ⟨x32, rest29⟩
              · have hlt34 := restNil hd30
                replace h28 := (code_Check_l1.eq_1 _ _ _ _ _).symm.trans h28
                refine COk.seqQ fun Q223 qn223 qx223 qr223 => ?_
                refine gor hn ?_
                refine qn223 _ _ ?_
                refine COk.seqQ fun Q224 qn224 qx224 qr224 => ?_
                refine goc hn ?_
                refine bselF hlt34 ?_
                refine goe hn ?_
                refine qx224 _ _ _ ?_
                refine qx222 _ _ _ ?_
                refine qe221 _ _ ?_
                refine qn220 _ _ ?_
                obtain rfl := Option.some.inj h28
                refine EOk.done ?_
                exact ⟨⟨_, rfl⟩, [], trivial, ⟨⟨(by repeat (first | exact trivial | exact rfl | (refine And.intro ?_ ?_))), rfl, trivial⟩, ⟨rfl, trivial⟩, rfl, rfl⟩⟩
              · obtain ⟨hx33, hd2, hlt34⟩ := restCons hd30
                replace h28 := (code_Check_l1.eq_2 _ _ _ _ _ _ _).symm.trans h28
                refine COk.seqQ fun Q225 qn225 qx225 qr225 => ?_
                refine gor hn ?_
                refine qn225 _ _ ?_
                refine COk.seqQ fun Q226 qn226 qx226 qr226 => ?_
                refine goc hn ?_
                refine bselT hlt34 ?_
                refine gok hn ?_
                refine qn226 _ _ ?_
                refine COk.seqQ fun Q227 qn227 qx227 qr227 => ?_
                refine COk.blkQ fun Q234 qn234 qe234 qx234 qr234 => ?_
                refine COk.seqQ fun Q235 qn235 qx235 qr235 => ?_
                refine gor hn ?_
                refine idxK hx33 ?_
                refine qn235 _ _ ?_
                refine COk.seqQ fun Q236 qn236 qx236 qr236 => ?_
                refine gor hn ?_
                obtain ⟨r35, hr36, h28⟩ := bindM h28
                show CallOk Try.prog _ _ _ _
                refine CallOk.as (code_numbers_ok N a0 a1 a2 x32 r35 hr36) (by repeat (first | exact trivial | exact rfl | (refine And.intro ?_ ?_))) trivial rfl ?_
                refine qn236 _ _ ?_
                refine COk.seqQ fun Q237 qn237 qx237 qr237 => ?_
                refine COk.sub (ts2 := [(1, .int a1), (3, .fp (eWd a0)), (5, .fp (eMe a2)), (6, .ptr 6 0), (7, .int (k26 : Int)), (9, .int r35), (67, .sl 5 (List.map eIns a2.code)), (68, .int (a2.code.length : Int)), (69, .int (k26 : Int))]) (os2 := [(6, .box [.int (0 : Int), .int (0 : Int)] 85)]) [] ⟨⟨rfl, (by repeat (first | exact trivial | exact rfl | (refine And.intro ?_ ?_))), (by repeat (first | exact trivial | exact rfl | (refine And.intro ?_ ?_))), rfl, rfl, rfl, (by repeat (first | exact trivial | exact rfl | (refine And.intro ?_ ?_))), rfl, rfl, trivial⟩, ⟨rfl, trivial⟩, rfl, rfl⟩ (by rw [hn]; rfl) ?_
                refine gor hn ?_
                refine qn237 _ _ ?_
                refine goc hn ?_
                refine bselM h28 (fun hb37 h28 => ?_) (fun hb37 h28 => ?_)
                · refine COk.seqQ fun Q238 qn238 qx238 qr238 => ?_
                  refine gor hn ?_
                  refine qn238 _ _ ?_
                  refine got hn ?_
                  refine qr234 _ _ ?_
                  refine qr227 _ _ ?_
                  refine qr222 _ _ ?_
                  refine qr221 _ _ ?_
                  refine qr220 _ _ ?_
                  refine qr182 _ _ ?_
                  obtain rfl := Option.some.inj h28
                  obtain rfl := Option.some.inj h
                  exact ⟨[], _, rfl, (by repeat (first | exact trivial | exact rfl | (refine And.intro ?_ ?_))), trivial, rfl, rfl, rfl, rfl, rfl⟩
                · refine gok hn ?_
                  refine qn234 _ _ ?_
                  refine qn227 _ _ ?_
                  refine gor hn ?_
                  refine Or.inl (And.intro (inrK hx33 hl25) ?_)
                  refine qn222 _ _ ?_
                  refine EOk.done ?_
                  exact ⟨⟨(rest29, k26 + 1), hd2, h28⟩, [], by show rest29.length < rest29.length + 1; omega, ⟨⟨rfl, (by repeat (first | exact trivial | exact rfl | (refine And.intro ?_ ?_))), (by repeat (first | exact trivial | exact rfl | (refine And.intro ?_ ?_))), rfl, (by repeat (first | exact trivial | exact rfl | (refine And.intro ?_ ?_))), rfl, rfl, trivial⟩, ⟨rfl, trivial⟩, rfl, rfl⟩⟩
            rintro ⟨⟨⟩, rfl⟩
            refine qn182 _ _ ?_
            refine COk.seqQ fun Q239 qn239 qx239 qr239 => ?_
            refine gor hn ?_
            obtain ⟨r38, hr39, h⟩ := bindM h
            show CallOk Try.prog _ _ _ _
            refine CallOk.as ((code_Heights_ok N a2 r38 hr39).sw 0 85) (by repeat (first | exact trivial | exact rfl | (refine And.intro ?_ ?_))) trivial rfl ?_
            refine qn239 _ _ ?_
            refine COk.seqQ fun Q240 qn240 qx240 qr240 => ?_
            refine gor hn ?_
            refine qn240 _ _ ?_
            refine got hn ?_
            obtain rfl := Option.some.inj h
            exact ⟨[], _, rfl, (by repeat (first | exact trivial | exact rfl | (refine And.intro ?_ ?_))), trivial, rfl, rfl, rfl, rfl, rfl⟩

/- qclaw3.CodeTells -/
set_option maxRecDepth 100000 in
set_option maxHeartbeats 1000000 in
theorem qclaw3_CodeTells_ok (N : Nat) (a0 : Wd) (a1 : Int) (a2 : Me) (r : Bool) (h : qclaw3_CodeTells N a0 a1 a2 = some r) : Spec Try.prog 10 [] [.agg (eWd a0), .int a1, .agg (eMe a2)] (.bool r) [] [] := by
  refine Spec.of tabOk Try.func10 rfl Try.ntmps10 (by kernel_rfl) rfl rfl rfl fun Γ hn => ?_
  unfold qclaw3_CodeTells at h
  refine COk.seqQ fun Q160 qn160 qx160 qr160 => ?_
  refine gor hn ?_
  refine qn160 _ _ ?_
  refine COk.seqQ fun Q161 qn161 qx161 qr161 => ?_
  refine COk.seqQ fun Q162 qn162 qx162 qr162 => ?_
  refine gor hn ?_
  refine lenM (fun hl1 => ?_)
  refine qn162 _ _ ?_
  obtain ⟨o3, h4, h⟩ := bindM h
  refine COk.joinR (ι := { s : Unit // o3 = Ctl.next s }) (fun s => [(1, .int a1), (3, .ptr 3 0), (5, .ptr 5 0)]) (fun s => [(3, .box (eWd a0) 55), (5, .box (eMe a2) 74)]) (fun Q185 qn185 qx185 qr185 => ?_) (by intro s; rw [hn]; rfl) ?_
  · refine COk.blkQ fun Q186 qn186 qe186 qx186 qr186 => ?_
    refine COk.loopQ (ι := { q : ((List Cl) × Nat) // q.1 = a0.classes.drop q.2 ∧ qclaw3_CodeTells_l1 N q.1 q.2 = some o3 }) (fun q => [(1, .int a1), (3, .ptr 3 0), (5, .ptr 5 0), (17, .sl 4 (List.map eCl a0.classes)), (18, .int (a0.classes.length : Int)), (19, .int (q.1.2 : Int))]) (fun q => [(3, .box (eWd a0) 55), (5, .box (eMe a2) 74)]) (fun q => q.1.1.length) ⟨(a0.classes, 0), rfl, h4⟩ [] ⟨⟨rfl, rfl, rfl, (by repeat (first | exact trivial | exact rfl | (refine And.intro ?_ ?_))), rfl, rfl, trivial⟩, ⟨rfl, rfl, trivial⟩, rfl, rfl⟩ (by intro q; rw [hn]; rfl) ?_
    rintro ⟨⟨rest_, k2⟩, hd6, h4⟩ Q187 qn187 qx187 qr187
    replace hd6 : rest_ = a0.classes.drop k2 := hd6
    rcases rest_ with _ | ⟨x8, rest5⟩
    · have hlt10 := restNil hd6
      replace h4 := (qclaw3_CodeTells_l1.eq_1 _ _).symm.trans h4
      refine COk.seqQ fun Q188 qn188 qx188 qr188 => ?_
      refine gor hn ?_
      refine qn188 _ _ ?_
      refine COk.seqQ fun Q189 qn189 qx189 qr189 => ?_
      refine goc hn ?_
      refine bselF hlt10 ?_
      refine goe hn ?_
      refine qx189 _ _ _ ?_
      refine qx187 _ _ _ ?_
      refine qe186 _ _ ?_
      refine qn185 _ _ ?_
      obtain rfl := Option.some.inj h4
      refine EOk.done ?_
      exact ⟨⟨_, rfl⟩, [], trivial, ⟨⟨rfl, rfl, rfl, trivial⟩, ⟨rfl, rfl, trivial⟩, rfl, rfl⟩⟩
    · obtain ⟨hx9, hd2, hlt10⟩ := restCons hd6
      replace h4 := (qclaw3_CodeTells_l1.eq_2 _ _ _ _).symm.trans h4
      refine COk.seqQ fun Q190 qn190 qx190 qr190 => ?_
      refine gor hn ?_
      refine qn190 _ _ ?_
      refine COk.seqQ fun Q191 qn191 qx191 qr191 => ?_
      refine goc hn ?_
      refine bselT hlt10 ?_
      refine gok hn ?_
      refine qn191 _ _ ?_
      refine COk.seqQ fun Q192 qn192 qx192 qr192 => ?_
      refine COk.blkQ fun Q199 qn199 qe199 qx199 qr199 => ?_
      refine COk.seqQ fun Q200 qn200 qx200 qr200 => ?_
      refine gor hn ?_
      refine idxK hx9 ?_
      refine qn200 _ _ ?_
      refine COk.seqQ fun Q201 qn201 qx201 qr201 => ?_
      obtain ⟨o13, h12, h4⟩ := bindM h4
      refine COk.joinR (ι := { s : Bool // o13 = s }) (fun s => [(1, .int a1), (3, .ptr 3 0), (5, .ptr 5 0), (17, .sl 4 (List.map eCl a0.classes)), (18, .int (a0.classes.length : Int)), (19, .int (k2 : Int)), (30, .bool s.1)]) (fun s => [(3, .box (eWd a0) 55), (5, .box (eMe a2) 74)]) (fun Q202 qn202 qx202 qr202 => ?_) (by intro s; rw [hn]; rfl) ?_
      · refine gor hn ?_
        refine bselM h12 (fun hb14 h12 => ?_) (fun hb14 h12 => ?_)
        · refine bselT hb14 ?_
          refine bselT hb14 ?_
          refine bselT hb14 ?_
          refine qn202 _ _ ?_
          obtain rfl := Option.some.inj h12
          refine EOk.done ?_
          exact ⟨⟨_, rfl⟩, [], trivial, ⟨⟨rfl, rfl, rfl, (by repeat (first | exact trivial | exact rfl | (refine And.intro ?_ ?_))), rfl, rfl, rfl, trivial⟩, ⟨rfl, rfl, trivial⟩, rfl, rfl⟩⟩
        · refine bselF hb14 ?_
          refine bselF hb14 ?_
          refine bselF hb14 ?_
          refine qn202 _ _ ?_
          obtain rfl := Option.some.inj h12
          refine EOk.done ?_
          exact ⟨⟨_, rfl⟩, [], trivial, ⟨⟨rfl, rfl, rfl, (by repeat (first | exact trivial | exact rfl | (refine And.intro ?_ ?_))), rfl, rfl, rfl, trivial⟩, ⟨rfl, rfl, trivial⟩, rfl, rfl⟩⟩
      rintro ⟨v11, hv_⟩
      replace hv_ := hv_.symm
      subst hv_
      refine qn201 _ _ ?_
      refine goc hn ?_
      refine bselM h4 (fun hb15 h4 => ?_) (fun hb15 h4 => ?_)
      · refine COk.seqQ fun Q203 qn203 qx203 qr203 => ?_
        refine gor hn ?_
        refine qn203 _ _ ?_
        refine got hn ?_
        refine qr199 _ _ ?_
        refine qr192 _ _ ?_
        refine qr187 _ _ ?_
        refine qr186 _ _ ?_
        refine qr185 _ _ ?_
        refine qr161 _ _ ?_
        obtain rfl := Option.some.inj h4
        obtain rfl := Option.some.inj h
        exact ⟨[], _, rfl, (by repeat (first | exact trivial | exact rfl | (refine And.intro ?_ ?_))), trivial, rfl, rfl, rfl, rfl, rfl⟩
      · refine gok hn ?_
        refine qn199 _ _ ?_
        refine qn192 _ _ ?_
        refine gor hn ?_
        refine Or.inl (And.intro (inrK hx9 hl1) ?_)
        refine qn187 _ _ ?_
        refine EOk.done ?_
        exact ⟨⟨(rest5, k2 + 1), hd2, h4⟩, [], by show rest5.length < rest5.length + 1; omega, ⟨⟨rfl, rfl, rfl, (by repeat (first | exact trivial | exact rfl | (refine And.intro ?_ ?_))), rfl, rfl, trivial⟩, ⟨rfl, rfl, trivial⟩, rfl, rfl⟩⟩
  rintro ⟨⟨⟩, rfl⟩
  refine qn161 _ _ ?_
  refine COk.seqQ fun Q204 qn204 qx204 qr204 => ?_
  refine COk.seqQ fun Q205 qn205 qx205 qr205 => ?_
  refine gor hn ?_
  obtain ⟨r16, hr17, h⟩ := bindM h
  show CallOk Try.prog _ _ _ _
  refine CallOk.as (qcref1_Rises_ok N a0 r16 hr17) (by repeat (first | exact trivial | exact rfl | (refine And.intro ?_ ?_))) trivial rfl ?_
  refine qn205 _ _ ?_
  refine goc hn ?_
  refine bselM h (fun hb18 h => ?_) (fun hb18 h => ?_)
  · refine COk.seqQ fun Q207 qn207 qx207 qr207 => ?_
    refine gor hn ?_
    refine qn207 _ _ ?_
    refine got hn ?_
    refine qr204 _ _ ?_
    obtain rfl := Option.some.inj h
    exact ⟨[], _, rfl, (by repeat (first | exact trivial | exact rfl | (refine And.intro ?_ ?_))), trivial, rfl, rfl, rfl, rfl, rfl⟩
  · refine gok hn ?_
    refine qn204 _ _ ?_
    refine COk.seqQ fun Q208 qn208 qx208 qr208 => ?_
    refine COk.seqQ fun Q209 qn209 qx209 qr209 => ?_
    refine god hn (by kernel_rfl) ?_
    obtain ⟨r19, hr20, h⟩ := bindM h
    show CallOk Try.prog _ _ _ _
    refine CallOk.as (code_Check_ok N a0 a1 a2 r19 hr20) (by repeat (first | exact trivial | exact rfl | (refine And.intro ?_ ?_))) trivial rfl ?_
    obtain ⟨r21, hr22, h⟩ := bindM h
    show CallOk Try.prog _ _ _ _
    refine CallOk.as (qcref1_Check_ok N a0 a1 a2 r21 hr22) (by repeat (first | exact trivial | exact rfl | (refine And.intro ?_ ?_))) trivial rfl ?_
    refine qn209 _ _ ?_
    refine goc hn ?_
    refine bselM h (fun hb23 h => ?_) (fun hb23 h => ?_)
    · refine COk.seqQ fun Q211 qn211 qx211 qr211 => ?_
      refine gor hn ?_
      refine qn211 _ _ ?_
      refine got hn ?_
      refine qr208 _ _ ?_
      obtain rfl := Option.some.inj h
      exact ⟨[], _, rfl, (by repeat (first | exact trivial | exact rfl | (refine And.intro ?_ ?_))), trivial, rfl, rfl, rfl, rfl, rfl⟩
    · refine gok hn ?_
      refine qn208 _ _ ?_
      refine COk.seqQ fun Q212 qn212 qx212 qr212 => ?_
      refine COk.seqQ fun Q213 qn213 qx213 qr213 => ?_
      refine gor hn ?_
      refine lenM (fun hl24 => ?_)
      refine qn213 _ _ ?_
      obtain ⟨o26, h27, h⟩ := bindM h
      refine COk.joinR (ι := { s : Unit // o26 = Ctl.next s }) (fun s => [(5, .ptr 5 0)]) (fun s => [(5, .box (eMe a2) 74)]) (fun Q249 qn249 qx249 qr249 => ?_) (by intro s; rw [hn]; rfl) ?_
      · refine COk.blkQ fun Q250 qn250 qe250 qx250 qr250 => ?_
        refine COk.loopQ (ι := { q : ((List Ins) × Nat) // q.1 = a2.code.drop q.2 ∧ qclaw3_CodeTells_l2 N a2 q.1 q.2 = some o26 }) (fun q => [(5, .ptr 5 0), (45, .sl 5 (List.map eIns a2.code)), (46, .int (a2.code.length : Int)), (47, .int (q.1.2 : Int))]) (fun q => [(5, .box (eMe a2) 74)]) (fun q => q.1.1.length) ⟨(a2.code, 0), rfl, h27⟩ [] ⟨⟨rfl, (by repeat (first | exact trivial | exact rfl | (refine And.intro ?_ ?_))), rfl, rfl, trivial⟩, ⟨rfl, trivial⟩, rfl, rfl⟩ (by intro q; rw [hn]; rfl) ?_
        rintro ⟨⟨rest_, k25⟩, hd29, h27⟩ Q251 qn251 qx251 qr251
        replace hd29 : rest_ = a2.code.drop k25 := hd29
        rcases rest_ with _ | ⟨x31, rest28⟩
        · have hlt33 := restNil hd29
          replace h27 := (qclaw3_CodeTells_l2.eq_1 _ _ _).symm.trans h27
          refine COk.seqQ fun Q252 qn252 qx252 qr252 => ?_
          refine gor hn ?_
          refine qn252 _ _ ?_
          refine COk.seqQ fun Q253 qn253 qx253 qr253 => ?_
          refine goc hn ?_
          refine bselF hlt33 ?_
          refine goe hn ?_
          refine qx253 _ _ _ ?_
          refine qx251 _ _ _ ?_
          refine qe250 _ _ ?_
          refine qn249 _ _ ?_
          obtain rfl := Option.some.inj h27
          refine EOk.done ?_
          exact ⟨⟨_, rfl⟩, [], trivial, ⟨⟨rfl, trivial⟩, ⟨rfl, trivial⟩, rfl, rfl⟩⟩
        · obtain ⟨hx32, hd2, hlt33⟩ := restCons hd29
          replace h27 := (qclaw3_CodeTells_l2.eq_2 _ _ _ _ _).symm.trans h27
          refine COk.seqQ fun Q254 qn254 qx254 qr254 => ?_
          refine gor hn ?_
          refine qn254 _ _ ?_
          refine COk.seqQ fun Q255 qn255 qx255 qr255 => ?_
          refine goc hn ?_
          refine bselT hlt33 ?_
          refine gok hn ?_
          refine qn255 _ _ ?_
          refine COk.seqQ fun Q256 qn256 qx256 qr256 => ?_
          refine COk.blkQ fun Q263 qn263 qe263 qx263 qr263 => ?_
          refine COk.seqQ fun Q264 qn264 qx264 qr264 => ?_
          refine gor hn ?_
          refine idxK hx32 ?_
          refine qn264 _ _ ?_
          refine COk.seqQ fun Q265 qn265 qx265 qr265 => ?_
          obtain ⟨o36, h35, h27⟩ := bindM h27
          refine COk.joinR (ι := { s : Bool // o36 = s }) (fun s => [(5, .ptr 5 0), (45, .sl 5 (List.map eIns a2.code)), (46, .int (a2.code.length : Int)), (47, .int (k25 : Int)), (96, .bool s.1)]) (fun s => [(5, .box (eMe a2) 74)]) (fun Q266 qn266 qx266 qr266 => ?_) (by intro s; rw [hn]; rfl) ?_
          · refine gor hn ?_
            refine bselM h35 (fun hb37 h35 => ?_) (fun hb37 h35 => ?_)
            · refine bselT hb37 ?_
              refine bselT hb37 ?_
              refine bselT hb37 ?_
              refine qn266 _ _ ?_
              obtain rfl := Option.some.inj h35
              refine EOk.done ?_
              exact ⟨⟨_, rfl⟩, [], trivial, ⟨⟨rfl, (by repeat (first | exact trivial | exact rfl | (refine And.intro ?_ ?_))), rfl, rfl, rfl, trivial⟩, ⟨rfl, trivial⟩, rfl, rfl⟩⟩
            · refine bselF hb37 ?_
              refine bselF hb37 ?_
              refine bselF hb37 ?_
              refine bselM h35 (fun hb38 h35 => ?_) (fun hb38 h35 => ?_)
              · refine bselT hb38 ?_
                refine bselT hb38 ?_
                refine bselT hb38 ?_
                refine bselT hb38 ?_
                refine bselT hb38 ?_
                refine qn266 _ _ ?_
                obtain rfl := Option.some.inj h35
                refine EOk.done ?_
                exact ⟨⟨_, rfl⟩, [], trivial, ⟨⟨rfl, (by repeat (first | exact trivial | exact rfl | (refine And.intro ?_ ?_))), rfl, rfl, rfl, trivial⟩, ⟨rfl, trivial⟩, rfl, rfl⟩⟩
              · refine bselF hb38 ?_
                refine bselF hb38 ?_
                refine bselF hb38 ?_
                refine bselM h35 (fun hb39 h35 => ?_) (fun hb39 h35 => ?_)
                · refine bselT hb39 ?_
                  refine bselT hb39 ?_
                  refine bselT hb39 ?_
                  refine bselM h35 (fun hb40 h35 => ?_) (fun hb40 h35 => ?_)
                  · refine bselT hb40 ?_
                    refine bselT hb40 ?_
                    refine bselT hb39 ?_
                    refine bselT hb40 ?_
                    refine bselF hb38 ?_
                    refine bselT hb39 ?_
                    refine bselF hb38 ?_
                    refine qn266 _ _ ?_
                    obtain rfl := Option.some.inj h35
                    refine EOk.done ?_
                    exact ⟨⟨_, rfl⟩, [], trivial, ⟨⟨rfl, (by repeat (first | exact trivial | exact rfl | (refine And.intro ?_ ?_))), rfl, rfl, rfl, trivial⟩, ⟨rfl, trivial⟩, rfl, rfl⟩⟩
                  · refine bselF hb40 ?_
                    refine bselF hb40 ?_
                    refine bselT hb39 ?_
                    refine bselF hb40 ?_
                    refine bselF hb38 ?_
                    refine bselT hb39 ?_
                    refine bselF hb38 ?_
                    refine bselM h35 (fun hb41 h35 => ?_) (fun hb41 h35 => ?_)
                    · refine bselT hb41 ?_
                      refine bselT hb41 ?_
                      refine bselT hb41 ?_
                      refine bselT hb41 ?_
                      refine bselT hb41 ?_
                      refine bselT hb41 ?_
                      refine bselT hb41 ?_
                      refine qn266 _ _ ?_
                      obtain rfl := Option.some.inj h35
                      refine EOk.done ?_
                      exact ⟨⟨_, rfl⟩, [], trivial, ⟨⟨rfl, (by repeat (first | exact trivial | exact rfl | (refine And.intro ?_ ?_))), rfl, rfl, rfl, trivial⟩, ⟨rfl, trivial⟩, rfl, rfl⟩⟩
                    · refine bselF hb41 ?_
                      refine bselF hb41 ?_
                      refine bselF hb41 ?_
                      refine bselM h35 (fun hb42 h35 => ?_) (fun hb42 h35 => ?_)
                      · refine bselT hb42 ?_
                        refine bselT hb42 ?_
                        refine bselF hb41 ?_
                        refine bselT hb42 ?_
                        refine bselF hb41 ?_
                        refine bselF hb40 ?_
                        refine bselF hb40 ?_
                        refine bselF hb40 ?_
                        refine bselF hb40 ?_
                        refine bselF hb40 ?_
                        refine lenM (fun hl43 => ?_)
                        refine bselF hb40 ?_
                        refine bselF hb40 ?_
                        refine bselF hb41 ?_
                        refine bselF hb41 ?_
                        refine qn266 _ _ ?_
                        obtain rfl := Option.some.inj h35
                        refine EOk.done ?_
                        exact ⟨⟨_, rfl⟩, [], trivial, ⟨⟨rfl, (by repeat (first | exact trivial | exact rfl | (refine And.intro ?_ ?_))), rfl, rfl, rfl, trivial⟩, ⟨rfl, trivial⟩, rfl, rfl⟩⟩
                      · refine bselF hb42 ?_
                        refine bselF hb42 ?_
                        refine bselF hb41 ?_
                        refine bselF hb42 ?_
                        refine bselF hb41 ?_
                        refine bselM h35 (fun hb44 h35 => ?_) (fun hb44 h35 => ?_)
                        · refine bselT hb44 ?_
                          refine bselT hb44 ?_
                          refine bselT hb44 ?_
                          refine bselF hb40 ?_
                          refine bselF hb40 ?_
                          refine bselF hb40 ?_
                          refine bselF hb40 ?_
                          refine bselF hb40 ?_
                          refine lenM (fun hl45 => ?_)
                          refine bselF hb40 ?_
                          refine bselT hb44 ?_
                          refine bselF hb40 ?_
                          refine bselF hb41 ?_
                          refine bselT hb44 ?_
                          refine bselF hb41 ?_
                          refine qn266 _ _ ?_
                          obtain rfl := Option.some.inj h35
                          refine EOk.done ?_
                          exact ⟨⟨_, rfl⟩, [], trivial, ⟨⟨rfl, (by repeat (first | exact trivial | exact rfl | (refine And.intro ?_ ?_))), rfl, rfl, rfl, trivial⟩, ⟨rfl, trivial⟩, rfl, rfl⟩⟩
                        · refine bselF hb44 ?_
                          refine bselF hb44 ?_
                          refine bselF hb44 ?_
                          refine bselF hb44 ?_
                          refine bselF hb41 ?_
                          refine bselF hb44 ?_
                          refine bselF hb41 ?_
                          refine qn266 _ _ ?_
                          obtain rfl := Option.some.inj h35
                          refine EOk.done ?_
                          exact ⟨⟨_, rfl⟩, [], trivial, ⟨⟨rfl, (by repeat (first | exact trivial | exact rfl | (refine And.intro ?_ ?_))), rfl, rfl, rfl, trivial⟩, ⟨rfl, trivial⟩, rfl, rfl⟩⟩
                · refine bselF hb39 ?_
                  refine bselF hb39 ?_
                  refine bselF hb39 ?_
                  refine bselF hb39 ?_
                  refine bselF hb38 ?_
                  refine bselF hb39 ?_
                  refine bselF hb38 ?_
                  refine bselM h35 (fun hb46 h35 => ?_) (fun hb46 h35 => ?_)
                  · refine bselT hb46 ?_
                    refine bselT hb46 ?_
                    refine bselT hb46 ?_
                    refine bselM h35 (fun hb47 h35 => ?_) (fun hb47 h35 => ?_)
                    · refine bselT hb47 ?_
                      refine bselT hb47 ?_
                      refine bselT hb47 ?_
                      refine bselT hb47 ?_
                      refine bselT hb47 ?_
                      refine bselT hb47 ?_
                      refine qn266 _ _ ?_
                      obtain rfl := Option.some.inj h35
                      refine EOk.done ?_
                      exact ⟨⟨_, rfl⟩, [], trivial, ⟨⟨rfl, (by repeat (first | exact trivial | exact rfl | (refine And.intro ?_ ?_))), rfl, rfl, rfl, trivial⟩, ⟨rfl, trivial⟩, rfl, rfl⟩⟩
                    · refine bselF hb47 ?_
                      refine bselF hb47 ?_
                      refine bselF hb47 ?_
                      refine bselF hb47 ?_
                      refine lenM (fun hl48 => ?_)
                      refine bselF hb47 ?_
                      refine bselF hb47 ?_
                      refine qn266 _ _ ?_
                      obtain rfl := Option.some.inj h35
                      refine EOk.done ?_
                      exact ⟨⟨_, rfl⟩, [], trivial, ⟨⟨rfl, (by repeat (first | exact trivial | exact rfl | (refine And.intro ?_ ?_))), rfl, rfl, rfl, trivial⟩, ⟨rfl, trivial⟩, rfl, rfl⟩⟩
                  · refine bselF hb46 ?_
                    refine bselF hb46 ?_
                    refine bselF hb46 ?_
                    refine bselM h35 (fun hb49 h35 => ?_) (fun hb49 h35 => ?_)
                    · refine bselT hb49 ?_
                      refine bselT hb49 ?_
                      refine bselT hb49 ?_
                      refine bselM h35 (fun hb50 h35 => ?_) (fun hb50 h35 => ?_)
                      · refine bselT hb50 ?_
                        refine bselT hb50 ?_
                        refine bselT hb50 ?_
                        refine bselT hb50 ?_
                        refine bselT hb50 ?_
                        refine bselT hb49 ?_
                        refine bselT hb50 ?_
                        refine bselT hb49 ?_
                        refine qn266 _ _ ?_
                        obtain rfl := Option.some.inj h35
                        refine EOk.done ?_
                        exact ⟨⟨_, rfl⟩, [], trivial, ⟨⟨rfl, (by repeat (first | exact trivial | exact rfl | (refine And.intro ?_ ?_))), rfl, rfl, rfl, trivial⟩, ⟨rfl, trivial⟩, rfl, rfl⟩⟩
                      · refine bselF hb50 ?_
                        refine bselF hb50 ?_
                        refine bselF hb50 ?_
                        refine bselF hb50 ?_
                        refine lenM (fun hl51 => ?_)
                        refine bselF hb50 ?_
                        refine bselT hb49 ?_
                        refine bselF hb50 ?_
                        refine bselT hb49 ?_
                        refine qn266 _ _ ?_
                        obtain rfl := Option.some.inj h35
                        refine EOk.done ?_
                        exact ⟨⟨_, rfl⟩, [], trivial, ⟨⟨rfl, (by repeat (first | exact trivial | exact rfl | (refine And.intro ?_ ?_))), rfl, rfl, rfl, trivial⟩, ⟨rfl, trivial⟩, rfl, rfl⟩⟩
                    · refine bselF hb49 ?_
                      refine bselF hb49 ?_
                      refine bselF hb49 ?_
                      refine bselF hb49 ?_
                      refine bselF hb49 ?_
                      refine qn266 _ _ ?_
                      obtain rfl := Option.some.inj h35
                      refine EOk.done ?_
                      exact ⟨⟨_, rfl⟩, [], trivial, ⟨⟨rfl, (by repeat (first | exact trivial | exact rfl | (refine And.intro ?_ ?_))), rfl, rfl, rfl, trivial⟩, ⟨rfl, trivial⟩, rfl, rfl⟩⟩
          rintro ⟨v34, hv_⟩
          replace hv_ := hv_.symm
          subst hv_
          refine qn265 _ _ ?_
          refine goc hn ?_
          refine bselM h27 (fun hb52 h27 => ?_) (fun hb52 h27 => ?_)
          · refine COk.seqQ fun Q267 qn267 qx267 qr267 => ?_
            refine gor hn ?_
            refine qn267 _ _ ?_
            refine got hn ?_
            refine qr263 _ _ ?_
            refine qr256 _ _ ?_
            refine qr251 _ _ ?_
            refine qr250 _ _ ?_
            refine qr249 _ _ ?_
            refine qr212 _ _ ?_
            obtain rfl := Option.some.inj h27
            obtain rfl := Option.some.inj h
            exact ⟨[], _, rfl, (by repeat (first | exact trivial | exact rfl | (refine And.intro ?_ ?_))), trivial, rfl, rfl, rfl, rfl, rfl⟩
          · refine gok hn ?_
            refine qn263 _ _ ?_
            refine qn256 _ _ ?_
            refine gor hn ?_
            refine Or.inl (And.intro (inrK hx32 hl24) ?_)
            refine qn251 _ _ ?_
            refine EOk.done ?_
            exact ⟨⟨(rest28, k25 + 1), hd2, h27⟩, [], by show rest28.length < rest28.length + 1; omega, ⟨⟨rfl, (by repeat (first | exact trivial | exact rfl | (refine And.intro ?_ ?_))), rfl, rfl, trivial⟩, ⟨rfl, trivial⟩, rfl, rfl⟩⟩
      rintro ⟨⟨⟩, rfl⟩
      refine qn212 _ _ ?_
      refine COk.seqQ fun Q268 qn268 qx268 qr268 => ?_
      refine COk.seqQ fun Q269 qn269 qx269 qr269 => ?_
      obtain ⟨o55, h54, h⟩ := bindM h
      refine COk.joinR (ι := { s : Bool // o55 = s }) (fun s => [(5, .ptr 5 0), (107, .bool s.1)]) (fun s => [(5, .box (eMe a2) 74)]) (fun Q270 qn270 qx270 qr270 => ?_) (by intro s; rw [hn]; rfl) ?_
      · refine gor hn ?_
        refine lenM (fun hl56 => ?_)
        refine bselM h54 (fun hb57 h54 => ?_) (fun hb57 h54 => ?_)
        · refine bselT hb57 ?_
          refine bselT hb57 ?_
          refine bselT hb57 ?_
          refine bselT hb57 ?_
          refine qn270 _ _ ?_
          obtain rfl := Option.some.inj h54
          refine EOk.done ?_
          exact ⟨⟨_, rfl⟩, [], trivial, ⟨⟨rfl, rfl, trivial⟩, ⟨rfl, trivial⟩, rfl, rfl⟩⟩
        · refine bselF hb57 ?_
          refine bselF hb57 ?_
          refine lenM (fun hl58 => ?_)
          refine bselF hb57 ?_
          refine bselF hb57 ?_
          refine qn270 _ _ ?_
          obtain rfl := Option.some.inj h54
          refine EOk.done ?_
          exact ⟨⟨_, rfl⟩, [], trivial, ⟨⟨rfl, rfl, trivial⟩, ⟨rfl, trivial⟩, rfl, rfl⟩⟩
      rintro ⟨v53, hv_⟩
      replace hv_ := hv_.symm
      subst hv_
      refine qn269 _ _ ?_
      refine goc hn ?_
      refine bselM h (fun hb59 h => ?_) (fun hb59 h => ?_)
      · refine COk.seqQ fun Q272 qn272 qx272 qr272 => ?_
        refine gor hn ?_
        refine qn272 _ _ ?_
        refine got hn ?_
        refine qr268 _ _ ?_
        obtain rfl := Option.some.inj h
        exact ⟨[], _, rfl, (by repeat (first | exact trivial | exact rfl | (refine And.intro ?_ ?_))), trivial, rfl, rfl, rfl, rfl, rfl⟩
      · refine gok hn ?_
        refine qn268 _ _ ?_
        refine COk.seqQ fun Q273 qn273 qx273 qr273 => ?_
        refine gor hn ?_
        obtain ⟨r60, hr61, h⟩ := bindM h
        show CallOk Try.prog _ _ _ _
        refine CallOk.as ((code_Heights_ok N a2 r60 hr61).sw 0 110) (by repeat (first | exact trivial | exact rfl | (refine And.intro ?_ ?_))) trivial rfl ?_
        refine qn273 _ _ ?_
        refine COk.seqQ fun Q274 qn274 qx274 qr274 => ?_
        refine gor hn ?_
        obtain ⟨r62, hr63, h⟩ := bindM h
        show CallOk Try.prog _ _ _ _
        refine CallOk.as ((qcref1_Heights_ok N a2 r62 hr63).sw 0 115) (by repeat (first | exact trivial | exact rfl | (refine And.intro ?_ ?_))) trivial rfl ?_
        refine qn274 _ _ ?_
        refine COk.seqQ fun Q275 qn275 qx275 qr275 => ?_
        refine COk.seqQ fun Q276 qn276 qx276 qr276 => ?_
        obtain ⟨o66, h65, h⟩ := bindM h
        refine COk.joinR (ι := { s : Bool // o66 = s }) (fun s => [(11, .own 110), (13, .own 115), (127, .bool s.1)]) (fun s => [(110, .row 1 (List.map eInt r60.1) 3), (115, .row 1 (List.map eInt r62.1) 3)]) (fun Q277 qn277 qx277 qr277 => ?_) (by intro s; rw [hn]; rfl) ?_
        · refine gor hn ?_
          refine bselM h65 (fun hb67 h65 => ?_) (fun hb67 h65 => ?_)
          · refine bselT hb67 ?_
            refine bselT hb67 ?_
            refine bselT hb67 ?_
            refine bselT hb67 ?_
            refine bselT hb67 ?_
            refine qn277 _ _ ?_
            obtain rfl := Option.some.inj h65
            refine EOk.done ?_
            exact ⟨⟨_, rfl⟩, [], trivial, ⟨⟨rfl, rfl, rfl, trivial⟩, ⟨rfl, rfl, trivial⟩, rfl, rfl⟩⟩
          · refine bselF hb67 ?_
            refine lenM (fun hl68 => ?_)
            refine bselF hb67 ?_
            refine bselF hb67 ?_
            refine lenM (fun hl69 => ?_)
            refine bselF hb67 ?_
            refine bselF hb67 ?_
            refine qn277 _ _ ?_
            obtain rfl := Option.some.inj h65
            refine EOk.done ?_
            exact ⟨⟨_, rfl⟩, [], trivial, ⟨⟨rfl, rfl, rfl, trivial⟩, ⟨rfl, rfl, trivial⟩, rfl, rfl⟩⟩
        rintro ⟨v64, hv_⟩
        replace hv_ := hv_.symm
        subst hv_
        refine qn276 _ _ ?_
        refine goc hn ?_
        refine bselM h (fun hb70 h => ?_) (fun hb70 h => ?_)
        · refine COk.seqQ fun Q279 qn279 qx279 qr279 => ?_
          refine gor hn ?_
          refine qn279 _ _ ?_
          refine got hn ?_
          refine qr275 _ _ ?_
          obtain rfl := Option.some.inj h
          exact ⟨[], _, rfl, (by repeat (first | exact trivial | exact rfl | (refine And.intro ?_ ?_))), trivial, rfl, rfl, rfl, rfl, rfl⟩
        · refine gok hn ?_
          refine qn275 _ _ ?_
          refine COk.seqQ fun Q280 qn280 qx280 qr280 => ?_
          refine COk.seqQ fun Q281 qn281 qx281 qr281 => ?_
          refine gor hn ?_
          refine lenM (fun hl71 => ?_)
          refine qn281 _ _ ?_
          obtain ⟨o73, h74, h⟩ := bindM h
          refine COk.joinR (ι := { s : Unit // o73 = Ctl.next s }) (fun s => []) (fun s => []) (fun Q301 qn301 qx301 qr301 => ?_) (by intro s; rw [hn]; rfl) ?_
          · refine COk.blkQ fun Q302 qn302 qe302 qx302 qr302 => ?_
            refine COk.loopQ (ι := { q : ((List Int) × Nat) // q.1 = r60.1.drop q.2 ∧ qclaw3_CodeTells_l3 N r60 r62 q.1 q.2 = some o73 }) (fun q => [(11, .own 110), (13, .own 115), (129, .int (r60.1.length : Int)), (130, .int (q.1.2 : Int))]) (fun q => [(110, .row 1 (List.map eInt r60.1) 3), (115, .row 1 (List.map eInt r62.1) 3)]) (fun q => q.1.1.length) ⟨(r60.1, 0), rfl, h74⟩ [] ⟨⟨rfl, rfl, rfl, rfl, trivial⟩, ⟨rfl, rfl, trivial⟩, rfl, rfl⟩ (by intro q; rw [hn]; rfl) ?_
            rintro ⟨⟨rest_, k72⟩, hd76, h74⟩ Q303 qn303 qx303 qr303
            replace hd76 : rest_ = r60.1.drop k72 := hd76
            rcases rest_ with _ | ⟨x78, rest75⟩
            · have hlt80 := restNil hd76
              replace h74 := (qclaw3_CodeTells_l3.eq_1 _ _ _ _).symm.trans h74
              refine COk.seqQ fun Q304 qn304 qx304 qr304 => ?_
              refine gor hn ?_
              refine qn304 _ _ ?_
              refine COk.seqQ fun Q305 qn305 qx305 qr305 => ?_
              refine goc hn ?_
              refine bselF hlt80 ?_
              refine goe hn ?_
              refine qx305 _ _ _ ?_
              refine qx303 _ _ _ ?_
              refine qe302 _ _ ?_
              refine qn301 _ _ ?_
              obtain rfl := Option.some.inj h74
              refine EOk.done ?_
              exact ⟨⟨_, rfl⟩, [], trivial, ⟨trivial, trivial, rfl, rfl⟩⟩
            · obtain ⟨hx79, hd2, hlt80⟩ := restCons hd76
              replace h74 := (qclaw3_CodeTells_l3.eq_2 _ _ _ _ _ _).symm.trans h74
              refine COk.seqQ fun Q306 qn306 qx306 qr306 => ?_
              refine gor hn ?_
              refine qn306 _ _ ?_
              refine COk.seqQ fun Q307 qn307 qx307 qr307 => ?_
              refine goc hn ?_
              refine bselT hlt80 ?_
              refine gok hn ?_
              refine qn307 _ _ ?_
              refine COk.seqQ fun Q308 qn308 qx308 qr308 => ?_
              refine COk.blkQ fun Q314 qn314 qe314 qx314 qr314 => ?_
              refine COk.seqQ fun Q315 qn315 qx315 qr315 => ?_
              refine gor hn ?_
              refine qn315 _ _ ?_
              refine COk.seqQ fun Q316 qn316 qx316 qr316 => ?_
              refine god hn (by kernel_rfl) ?_
              obtain ⟨x81, hx82, h74⟩ := bindM h74
              refine ownM hx82 ?_
              refine ldM (nthO_some hx82).2 ?_
              obtain ⟨x83, hx84, h74⟩ := bindM h74
              refine ownM hx84 ?_
              refine ldM (nthO_some hx84).2 ?_
              refine qn316 _ _ ?_
              refine goc hn ?_
              refine bselM h74 (fun hb85 h74 => ?_) (fun hb85 h74 => ?_)
              · refine COk.seqQ fun Q317 qn317 qx317 qr317 => ?_
                refine gor hn ?_
                refine qn317 _ _ ?_
                refine got hn ?_
                refine qr314 _ _ ?_
                refine qr308 _ _ ?_
                refine qr303 _ _ ?_
                refine qr302 _ _ ?_
                refine qr301 _ _ ?_
                refine qr280 _ _ ?_
                obtain rfl := Option.some.inj h74
                obtain rfl := Option.some.inj h
                exact ⟨[], _, rfl, (by repeat (first | exact trivial | exact rfl | (refine And.intro ?_ ?_))), trivial, rfl, rfl, rfl, rfl, rfl⟩
              · refine gok hn ?_
                refine qn314 _ _ ?_
                refine qn308 _ _ ?_
                refine gor hn ?_
                refine Or.inl (And.intro (inrK hx79 hl71) ?_)
                refine qn303 _ _ ?_
                refine EOk.done ?_
                exact ⟨⟨(rest75, k72 + 1), hd2, h74⟩, [], by show rest75.length < rest75.length + 1; omega, ⟨⟨rfl, rfl, rfl, rfl, trivial⟩, ⟨rfl, rfl, trivial⟩, rfl, rfl⟩⟩
          rintro ⟨⟨⟩, rfl⟩
          refine qn280 _ _ ?_
          refine COk.seqQ fun Q318 qn318 qx318 qr318 => ?_
          refine gor hn ?_
          refine qn318 _ _ ?_
          refine got hn ?_
          obtain rfl := Option.some.inj h
          exact ⟨[], _, rfl, (by repeat (first | exact trivial | exact rfl | (refine And.intro ?_ ?_))), trivial, rfl, rfl, rfl, rfl, rfl⟩
end Go.Proofs.Ytioalgofaiideaa
