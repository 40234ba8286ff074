/- Walks after the mirrors. Printed by mir.py. -/
import Derived.Test.YtioalgofaiideaaWk1
namespace Go.Proofs.Ytioalgofaiideaa
open Go.RowKit
set_option linter.unusedVariables false
/- code.Check -/
set_option maxRecDepth 100000 in
set_option maxHeartbeats 1000000 in
theorem code_Check_ok (N : Nat) (a0 : Wd) (a1 : Int) (a2 : Me) (r : TFault) (h : code_Check N a0 a1 a2 = some r) : Spec Try.prog 48 [] [.agg (eWd a0), .int a1, .agg (eMe a2)] (.agg (eTFault r)) [] [] := by
  refine Spec.of tabOk Try.func48 rfl Try.ntmps48 (by kernel_rfl) rfl rfl rfl fun Γ hn => ?_
  unfold code_Check at h
  refine COk.seqQ fun Q121 qn121 qx121 qr121 => ?_
  refine gor hn ?_
  refine qn121 _ _ ?_
  refine COk.seqQ fun Q122 qn122 qx122 qr122 => ?_
  refine COk.blkQ fun Q168 qn168 qe168 qx168 qr168 => ?_
  refine COk.seqQ fun Q169 qn169 qx169 qr169 => ?_
  obtain ⟨o3, h2, h⟩ := bindM h
  refine COk.joinR (ι := { s : Bool // o3 = s }) (fun s => [(1, .int a1), (3, .ptr 3 0), (5, .ptr 5 0), (6, .ptr 6 0), (12, .bool s.1)]) (fun s => [(3, .box (eWd a0) 55), (5, .box (eMe a2) 74), (6, .box [.int (0 : Int), .int (0 : Int)] 85)]) (fun Q170 qn170 qx170 qr170 => ?_) (by intro s; rw [hn]; rfl) ?_
  · refine gor hn ?_
    refine bselM h2 (fun hb4 h2 => ?_) (fun hb4 h2 => ?_)
    · refine bselT hb4 ?_
      refine bselT hb4 ?_
      refine bselT hb4 ?_
      refine bselT hb4 ?_
      refine bselT hb4 ?_
      refine qn170 _ _ ?_
      obtain rfl := Option.some.inj h2
      refine EOk.done ?_
      exact ⟨⟨_, rfl⟩, [], trivial, ⟨⟨rfl, rfl, rfl, rfl, rfl, trivial⟩, ⟨rfl, rfl, rfl, trivial⟩, rfl, rfl⟩⟩
    · refine bselF hb4 ?_
      refine bselF hb4 ?_
      refine bselF hb4 ?_
      refine lenM (fun hl5 => ?_)
      refine bselF hb4 ?_
      refine bselF hb4 ?_
      refine qn170 _ _ ?_
      obtain rfl := Option.some.inj h2
      refine EOk.done ?_
      exact ⟨⟨_, rfl⟩, [], trivial, ⟨⟨rfl, rfl, rfl, rfl, rfl, trivial⟩, ⟨rfl, rfl, rfl, trivial⟩, rfl, rfl⟩⟩
  rintro ⟨v1, hv_⟩
  replace hv_ := hv_.symm
  subst hv_
  refine qn169 _ _ ?_
  refine goc hn ?_
  refine bselM h (fun hb6 h => ?_) (fun hb6 h => ?_)
  · refine COk.seqQ fun Q171 qn171 qx171 qr171 => ?_
    refine gor hn ?_
    refine qn171 _ _ ?_
    refine got hn ?_
    refine qr168 _ _ ?_
    refine qr122 _ _ ?_
    obtain rfl := Option.some.inj h
    exact ⟨[], _, rfl, (by repeat (first | exact trivial | exact rfl | (refine And.intro ?_ ?_))), trivial, rfl, rfl, rfl, rfl, rfl⟩
  · refine COk.seqQ fun Q172 qn172 qx172 qr172 => ?_
    refine gor hn ?_
    obtain ⟨r7, hr8, h⟩ := bindM h
    show CallOk Try.prog _ _ _ _
    refine CallOk.as (class_Name_ok N a2.name r7 hr8) (by repeat (first | exact trivial | exact rfl | (refine And.intro ?_ ?_))) trivial rfl ?_
    refine qn172 _ _ ?_
    refine goc hn ?_
    refine bselM h (fun hb9 h => ?_) (fun hb9 h => ?_)
    · refine COk.seqQ fun Q173 qn173 qx173 qr173 => ?_
      refine gor hn ?_
      refine qn173 _ _ ?_
      refine got hn ?_
      refine qr168 _ _ ?_
      refine qr122 _ _ ?_
      obtain rfl := Option.some.inj h
      exact ⟨[], _, rfl, (by repeat (first | exact trivial | exact rfl | (refine And.intro ?_ ?_))), trivial, rfl, rfl, rfl, rfl, rfl⟩
    · refine COk.seqQ fun Q174 qn174 qx174 qr174 => ?_
      obtain ⟨o12, h11, h⟩ := bindM h
      refine COk.joinR (ι := { s : Bool // o12 = s }) (fun s => [(1, .int a1), (3, .ptr 3 0), (5, .ptr 5 0), (6, .ptr 6 0), (29, .bool s.1)]) (fun s => [(3, .box (eWd a0) 55), (5, .box (eMe a2) 74), (6, .box [.int (0 : Int), .int (0 : Int)] 85)]) (fun Q175 qn175 qx175 qr175 => ?_) (by intro s; rw [hn]; rfl) ?_
      · refine gor hn ?_
        refine bselM h11 (fun hb13 h11 => ?_) (fun hb13 h11 => ?_)
        · refine bselT hb13 ?_
          refine bselT hb13 ?_
          refine bselT hb13 ?_
          refine qn175 _ _ ?_
          obtain rfl := Option.some.inj h11
          refine EOk.done ?_
          exact ⟨⟨_, rfl⟩, [], trivial, ⟨⟨rfl, rfl, rfl, rfl, rfl, trivial⟩, ⟨rfl, rfl, rfl, trivial⟩, rfl, rfl⟩⟩
        · refine bselF hb13 ?_
          refine bselF hb13 ?_
          refine bselF hb13 ?_
          refine bselM h11 (fun hb14 h11 => ?_) (fun hb14 h11 => ?_)
          · refine bselT hb14 ?_
            refine bselT hb14 ?_
            refine bselT hb14 ?_
            refine qn175 _ _ ?_
            obtain rfl := Option.some.inj h11
            refine EOk.done ?_
            exact ⟨⟨_, rfl⟩, [], trivial, ⟨⟨rfl, rfl, rfl, rfl, rfl, trivial⟩, ⟨rfl, rfl, rfl, trivial⟩, rfl, rfl⟩⟩
          · refine bselF hb14 ?_
            refine bselF hb14 ?_
            refine bselF hb14 ?_
            refine bselM h11 (fun hb15 h11 => ?_) (fun hb15 h11 => ?_)
            · refine bselT hb15 ?_
              refine bselT hb15 ?_
              refine bselT hb15 ?_
              refine qn175 _ _ ?_
              obtain rfl := Option.some.inj h11
              refine EOk.done ?_
              exact ⟨⟨_, rfl⟩, [], trivial, ⟨⟨rfl, rfl, rfl, rfl, rfl, trivial⟩, ⟨rfl, rfl, rfl, trivial⟩, rfl, rfl⟩⟩
            · refine bselF hb15 ?_
              refine bselF hb15 ?_
              refine bselF hb15 ?_
              refine qn175 _ _ ?_
              obtain rfl := Option.some.inj h11
              refine EOk.done ?_
              exact ⟨⟨_, rfl⟩, [], trivial, ⟨⟨rfl, rfl, rfl, rfl, rfl, trivial⟩, ⟨rfl, rfl, rfl, trivial⟩, rfl, rfl⟩⟩
      rintro ⟨v10, hv_⟩
      replace hv_ := hv_.symm
      subst hv_
      refine qn174 _ _ ?_
      refine goc hn ?_
      refine bselM h (fun hb16 h => ?_) (fun hb16 h => ?_)
      · refine COk.seqQ fun Q176 qn176 qx176 qr176 => ?_
        refine gor hn ?_
        refine qn176 _ _ ?_
        refine got hn ?_
        refine qr168 _ _ ?_
        refine qr122 _ _ ?_
        obtain rfl := Option.some.inj h
        exact ⟨[], _, rfl, (by repeat (first | exact trivial | exact rfl | (refine And.intro ?_ ?_))), trivial, rfl, rfl, rfl, rfl, rfl⟩
      · refine COk.seqQ fun Q177 qn177 qx177 qr177 => ?_
        refine gor hn ?_
        refine qn177 _ _ ?_
        refine goc hn ?_
        refine bselM h (fun hb17 h => ?_) (fun hb17 h => ?_)
        · refine COk.seqQ fun Q178 qn178 qx178 qr178 => ?_
          refine gor hn ?_
          refine qn178 _ _ ?_
          refine got hn ?_
          refine qr168 _ _ ?_
          refine qr122 _ _ ?_
          obtain rfl := Option.some.inj h
          exact ⟨[], _, rfl, (by repeat (first | exact trivial | exact rfl | (refine And.intro ?_ ?_))), trivial, rfl, rfl, rfl, rfl, rfl⟩
        · refine COk.seqQ fun Q179 qn179 qx179 qr179 => ?_
          obtain ⟨o20, h19, h⟩ := bindM h
          refine COk.joinR (ι := { s : Bool // o20 = s }) (fun s => [(1, .int a1), (3, .ptr 3 0), (5, .ptr 5 0), (6, .ptr 6 0), (54, .bool s.1)]) (fun s => [(3, .box (eWd a0) 55), (5, .box (eMe a2) 74), (6, .box [.int (0 : Int), .int (0 : Int)] 85)]) (fun Q180 qn180 qx180 qr180 => ?_) (by intro s; rw [hn]; rfl) ?_
          · refine gor hn ?_
            refine lenM (fun hl21 => ?_)
            refine bselM h19 (fun hb22 h19 => ?_) (fun hb22 h19 => ?_)
            · refine bselT hb22 ?_
              refine bselT hb22 ?_
              refine bselT hb22 ?_
              refine bselT hb22 ?_
              refine qn180 _ _ ?_
              obtain rfl := Option.some.inj h19
              refine EOk.done ?_
              exact ⟨⟨_, rfl⟩, [], trivial, ⟨⟨rfl, rfl, rfl, rfl, rfl, trivial⟩, ⟨rfl, rfl, rfl, trivial⟩, rfl, rfl⟩⟩
            · refine bselF hb22 ?_
              refine bselF hb22 ?_
              refine lenM (fun hl23 => ?_)
              refine bselF hb22 ?_
              refine bselF hb22 ?_
              refine qn180 _ _ ?_
              obtain rfl := Option.some.inj h19
              refine EOk.done ?_
              exact ⟨⟨_, rfl⟩, [], trivial, ⟨⟨rfl, rfl, rfl, rfl, rfl, trivial⟩, ⟨rfl, rfl, rfl, trivial⟩, rfl, rfl⟩⟩
          rintro ⟨v18, hv_⟩
          replace hv_ := hv_.symm
          subst hv_
          refine qn179 _ _ ?_
          refine goc hn ?_
          refine bselM h (fun hb24 h => ?_) (fun hb24 h => ?_)
          · refine COk.seqQ fun Q181 qn181 qx181 qr181 => ?_
            refine gor hn ?_
            refine qn181 _ _ ?_
            refine got hn ?_
            refine qr168 _ _ ?_
            refine qr122 _ _ ?_
            obtain rfl := Option.some.inj h
            exact ⟨[], _, rfl, (by repeat (first | exact trivial | exact rfl | (refine And.intro ?_ ?_))), trivial, rfl, rfl, rfl, rfl, rfl⟩
          · refine gok hn ?_
            refine qn168 _ _ ?_
            refine qn122 _ _ ?_
            refine COk.seqQ fun Q182 qn182 qx182 qr182 => ?_
            refine COk.seqQ fun Q183 qn183 qx183 qr183 => ?_
            refine gor hn ?_
            refine lenM (fun hl25 => ?_)
            refine qn183 _ _ ?_
            refine COk.gh (Gh.fzBox 3 3 rfl rfl rfl) (fun _ => ?_)
            refine COk.gh (Gh.fzBox 5 5 rfl rfl rfl) (fun _ => ?_)
            obtain ⟨o27, h28, h⟩ := bindM h
            refine COk.joinR (ι := { s : Unit // o27 = Ctl.next s }) (fun s => [(5, .fp (eMe a2)), (6, .ptr 6 0)]) (fun s => [(6, .box [.int (0 : Int), .int (0 : Int)] 85)]) (fun Q220 qn220 qx220 qr220 => ?_) (by intro s; rw [hn]; rfl) ?_
            · refine COk.blkQ fun Q221 qn221 qe221 qx221 qr221 => ?_
              refine COk.loopQ (ι := { q : ((List Ins) × Nat) // q.1 = a2.code.drop q.2 ∧ code_Check_l1 N a0 a1 a2 q.1 q.2 = some o27 }) (fun q => [(1, .int a1), (3, .fp (eWd a0)), (5, .fp (eMe a2)), (6, .ptr 6 0), (67, .sl 5 (List.map eIns a2.code)), (68, .int (a2.code.length : Int)), (69, .int (q.1.2 : Int))]) (fun q => [(6, .box [.int (0 : Int), .int (0 : Int)] 85)]) (fun q => q.1.1.length) ⟨(a2.code, 0), rfl, h28⟩ [] ⟨⟨rfl, (by repeat (first | exact trivial | exact rfl | (refine And.intro ?_ ?_))), (by repeat (first | exact trivial | exact rfl | (refine And.intro ?_ ?_))), rfl, (by repeat (first | exact trivial | exact rfl | (refine And.intro ?_ ?_))), rfl, rfl, trivial⟩, ⟨rfl, trivial⟩, rfl, rfl⟩ (by intro q; rw [hn]; rfl) ?_
              rintro ⟨⟨rest_, k26⟩, hd30, h28⟩ Q222 qn222 qx222 qr222
              replace hd30 : rest_ = a2.code.drop k26 := hd30
              rcases rest_ with _ | ⟨x32, rest29⟩
              · have hlt34 := restNil hd30
                replace h28 := (code_Check_l1.eq_1 _ _ _ _ _).symm.trans h28
                refine COk.seqQ fun Q223 qn223 qx223 qr223 => ?_
                refine gor hn ?_
                refine qn223 _ _ ?_
                refine COk.seqQ fun Q224 qn224 qx224 qr224 => ?_
                refine goc hn ?_
                refine bselF hlt34 ?_
                refine goe hn ?_
                refine qx224 _ _ _ ?_
                refine qx222 _ _ _ ?_
                refine qe221 _ _ ?_
                refine qn220 _ _ ?_
                obtain rfl := Option.some.inj h28
                refine EOk.done ?_
                exact ⟨⟨_, rfl⟩, [], trivial, ⟨⟨(by repeat (first | exact trivial | exact rfl | (refine And.intro ?_ ?_))), rfl, trivial⟩, ⟨rfl, trivial⟩, rfl, rfl⟩⟩
              · obtain ⟨hx33, hd2, hlt34⟩ := restCons hd30
                replace h28 := (code_Check_l1.eq_2 _ _ _ _ _ _ _).symm.trans h28
                refine COk.seqQ fun Q225 qn225 qx225 qr225 => ?_
                refine gor hn ?_
                refine qn225 _ _ ?_
                refine COk.seqQ fun Q226 qn226 qx226 qr226 => ?_
                refine goc hn ?_
                refine bselT hlt34 ?_
                refine gok hn ?_
                refine qn226 _ _ ?_
                refine COk.seqQ fun Q227 qn227 qx227 qr227 => ?_
                refine COk.blkQ fun Q234 qn234 qe234 qx234 qr234 => ?_
                refine COk.seqQ fun Q235 qn235 qx235 qr235 => ?_
                refine gor hn ?_
                refine idxK hx33 ?_
                refine qn235 _ _ ?_
                refine COk.seqQ fun Q236 qn236 qx236 qr236 => ?_
                refine gor hn ?_
                obtain ⟨r35, hr36, h28⟩ := bindM h28
                show CallOk Try.prog _ _ _ _
                refine CallOk.as (code_numbers_ok N a0 a1 a2 x32 r35 hr36) (by repeat (first | exact trivial | exact rfl | (refine And.intro ?_ ?_))) trivial rfl ?_
                refine qn236 _ _ ?_
                refine COk.seqQ fun Q237 qn237 qx237 qr237 => ?_
                refine COk.sub (ts2 := [(1, .int a1), (3, .fp (eWd a0)), (5, .fp (eMe a2)), (6, .ptr 6 0), (7, .int (k26 : Int)), (9, .int r35), (67, .sl 5 (List.map eIns a2.code)), (68, .int (a2.code.length : Int)), (69, .int (k26 : Int))]) (os2 := [(6, .box [.int (0 : Int), .int (0 : Int)] 85)]) [] ⟨⟨rfl, (by repeat (first | exact trivial | exact rfl | (refine And.intro ?_ ?_))), (by repeat (first | exact trivial | exact rfl | (refine And.intro ?_ ?_))), rfl, rfl, rfl, (by repeat (first | exact trivial | exact rfl | (refine And.intro ?_ ?_))), rfl, rfl, trivial⟩, ⟨rfl, trivial⟩, rfl, rfl⟩ (by rw [hn]; rfl) ?_
                refine gor hn ?_
                refine qn237 _ _ ?_
                refine goc hn ?_
                refine bselM h28 (fun hb37 h28 => ?_) (fun hb37 h28 => ?_)
                · refine COk.seqQ fun Q238 qn238 qx238 qr238 => ?_
                  refine gor hn ?_
                  refine qn238 _ _ ?_
                  refine got hn ?_
                  refine qr234 _ _ ?_
                  refine qr227 _ _ ?_
                  refine qr222 _ _ ?_
                  refine qr221 _ _ ?_
                  refine qr220 _ _ ?_
                  refine qr182 _ _ ?_
                  obtain rfl := Option.some.inj h28
                  obtain rfl := Option.some.inj h
                  exact ⟨[], _, rfl, (by repeat (first | exact trivial | exact rfl | (refine And.intro ?_ ?_))), trivial, rfl, rfl, rfl, rfl, rfl⟩
                · refine gok hn ?_
                  refine qn234 _ _ ?_
                  refine qn227 _ _ ?_
                  refine gor hn ?_
                  refine Or.inl (And.intro (inrK hx33 hl25) ?_)
                  refine qn222 _ _ ?_
                  refine EOk.done ?_
                  exact ⟨⟨(rest29, k26 + 1), hd2, h28⟩, [], by show rest29.length < rest29.length + 1; omega, ⟨⟨rfl, (by repeat (first | exact trivial | exact rfl | (refine And.intro ?_ ?_))), (by repeat (first | exact trivial | exact rfl | (refine And.intro ?_ ?_))), rfl, (by repeat (first | exact trivial | exact rfl | (refine And.intro ?_ ?_))), rfl, rfl, trivial⟩, ⟨rfl, trivial⟩, rfl, rfl⟩⟩
            rintro ⟨⟨⟩, rfl⟩
            refine qn182 _ _ ?_
            refine COk.seqQ fun Q239 qn239 qx239 qr239 => ?_
            refine gor hn ?_
            obtain ⟨r38, hr39, h⟩ := bindM h
            show CallOk Try.prog _ _ _ _
            refine CallOk.as ((code_Heights_ok N a2 r38 hr39).sw 0 85) (by repeat (first | exact trivial | exact rfl | (refine And.intro ?_ ?_))) trivial rfl ?_
            refine qn239 _ _ ?_
            refine COk.seqQ fun Q240 qn240 qx240 qr240 => ?_
            refine gor hn ?_
            refine qn240 _ _ ?_
            refine got hn ?_
            obtain rfl := Option.some.inj h
            exact ⟨[], _, rfl, (by repeat (first | exact trivial | exact rfl | (refine And.intro ?_ ?_))), trivial, rfl, rfl, rfl, rfl, rfl⟩

/- qclaw3.alive -/
set_option maxRecDepth 100000 in
set_option maxHeartbeats 1000000 in
theorem qclaw3_alive_ok (N : Nat) (r : Bool) (h : qclaw3_alive N  = some r) : Spec Try.prog 52 [] [] (.bool r) [] [] := by
  refine Spec.of tabOk Try.func52 rfl Try.ntmps52 (by kernel_rfl) rfl rfl rfl fun Γ hn => ?_
  unfold qclaw3_alive at h
  refine COk.seqQ fun Q6 qn6 qx6 qr6 => ?_
  refine gor hn ?_
  refine qn6 _ _ ?_
  refine COk.seqQ fun Q7 qn7 qx7 qr7 => ?_
  refine gor hn ?_
  refine Exists.intro (List.map eIns [(⟨(5 : Int), (5 : Int), (0 : Int), (0 : Int), ByteArray.empty⟩ : Ins), (⟨(17 : Int), (0 : Int), (0 : Int), (0 : Int), ByteArray.empty⟩ : Ins)]) (And.intro (by repeat (first | exact trivial | exact rfl | (refine And.intro ?_ ?_))) ?_)
  refine qn7 _ _ ?_
  refine COk.seqQ fun Q8 qn8 qx8 qr8 => ?_
  refine COk.fzAll 6 rfl ?_
  refine COk.sub (ts2 := [(1, .ptr 1 0)]) (os2 := [(1, .box [.str (⟨#[109]⟩ : ByteArray), .int (0 : Int), .int (0 : Int), .int (0 : Int), .sl 5 (List.map eIns [(⟨(5 : Int), (5 : Int), (0 : Int), (0 : Int), ByteArray.empty⟩ : Ins), (⟨(17 : Int), (0 : Int), (0 : Int), (0 : Int), ByteArray.empty⟩ : Ins)])] 74)]) [] ⟨⟨rfl, trivial⟩, ⟨rfl, trivial⟩, rfl, rfl⟩ (by rw [hn]; rfl) ?_
  refine gor hn ?_
  obtain ⟨r1, hr2, h⟩ := bindM h
  show CallOk Try.prog _ _ _ _
  refine CallOk.as ((code_Heights_ok N (⟨(⟨#[109]⟩ : ByteArray), (0 : Int), (0 : Int), (0 : Int), [(⟨(5 : Int), (5 : Int), (0 : Int), (0 : Int), ByteArray.empty⟩ : Ins), (⟨(17 : Int), (0 : Int), (0 : Int), (0 : Int), ByteArray.empty⟩ : Ins)]⟩ : Me) r1 hr2).sw 0 10) (by repeat (first | exact trivial | exact rfl | (refine And.intro ?_ ?_))) trivial rfl ?_
  refine qn8 _ _ ?_
  refine COk.seqQ fun Q9 qn9 qx9 qr9 => ?_
  obtain ⟨o5, h4, h⟩ := bindM h
  refine COk.joinR (ι := { s : Bool // o5 = s }) (fun s => [(0, .bool s.1)]) (fun s => []) (fun Q10 qn10 qx10 qr10 => ?_) (by intro s; rw [hn]; rfl) ?_
  · refine COk.sub (ts2 := [(1, .ptr 1 0), (2, .own 10), (3, .ptr 3 0)]) (os2 := [(1, .box [.str (⟨#[109]⟩ : ByteArray), .int (0 : Int), .int (0 : Int), .int (0 : Int), .sl 5 (List.map eIns [(⟨(5 : Int), (5 : Int), (0 : Int), (0 : Int), ByteArray.empty⟩ : Ins), (⟨(17 : Int), (0 : Int), (0 : Int), (0 : Int), ByteArray.empty⟩ : Ins)])] 74), (3, .box (eTFault r1.2) 85), (10, .row 1 (List.map eInt r1.1) 3)]) [] ⟨⟨rfl, rfl, rfl, trivial⟩, ⟨rfl, rfl, rfl, trivial⟩, rfl, rfl⟩ (by rw [hn]; rfl) ?_
    refine god hn (by kernel_rfl) ?_
    refine bselM h4 (fun hb6 h4 => ?_) (fun hb6 h4 => ?_)
    · refine bselT hb6 ?_
      refine lenM (fun hl7 => ?_)
      refine bselT hb6 ?_
      refine bselT hb6 ?_
      refine bselM h4 (fun hb8 h4 => ?_) (fun hb8 h4 => ?_)
      · refine bselT hb8 ?_
        obtain ⟨x9, hx10, h4⟩ := bindM h4
        refine ownM hx10 ?_
        refine bselT hb8 ?_
        refine ldM (nthO_some hx10).2 ?_
        refine bselT hb8 ?_
        refine bselT hb8 ?_
        refine bselM h4 (fun hb11 h4 => ?_) (fun hb11 h4 => ?_)
        · obtain ⟨r12, hr13, h4⟩ := bindM h4
          show CallOk Try.prog _ _ _ _
          refine CallOk.as (qcref1_New_ok N  r12 hr13) (by repeat (first | exact trivial | exact rfl | (refine And.intro ?_ ?_))) trivial rfl ?_
          refine bselT hb11 ?_
          refine bselT hb11 ?_
          obtain ⟨r14, hr15, h4⟩ := bindM h4
          show CallOk Try.prog _ _ _ _
          refine CallOk.as (code_Check_ok N r12 (0 : Int) (⟨(⟨#[109]⟩ : ByteArray), (0 : Int), (0 : Int), (0 : Int), [(⟨(5 : Int), (5 : Int), (0 : Int), (0 : Int), ByteArray.empty⟩ : Ins), (⟨(17 : Int), (0 : Int), (0 : Int), (0 : Int), ByteArray.empty⟩ : Ins)]⟩ : Me) r14 hr15) (by repeat (first | exact trivial | exact rfl | (refine And.intro ?_ ?_))) trivial rfl ?_
          refine bselT hb11 ?_
          refine bselT hb11 ?_
          refine bselT hb11 ?_
          refine bselM h4 (fun hb16 h4 => ?_) (fun hb16 h4 => ?_)
          · obtain ⟨r17, hr18, h4⟩ := bindM h4
            show CallOk Try.prog _ _ _ _
            refine CallOk.as (qcref1_New_ok N  r17 hr18) (by repeat (first | exact trivial | exact rfl | (refine And.intro ?_ ?_))) trivial rfl ?_
            refine bselT hb16 ?_
            refine bselT hb16 ?_
            refine bselT hb16 ?_
            obtain ⟨hg19, h4⟩ := guardM h4
            refine takeM hg19 rfl rfl ?_
            refine bselT hb16 ?_
            refine bselT hb16 ?_
            obtain ⟨r20, hr21, h4⟩ := bindM h4
            show CallOk Try.prog _ _ _ _
            refine CallOk.as (code_Check_ok N r17 (0 : Int) (⟨(⟨#[109]⟩ : ByteArray), (0 : Int), (0 : Int), (0 : Int), ([(⟨(5 : Int), (5 : Int), (0 : Int), (0 : Int), ByteArray.empty⟩ : Ins), (⟨(17 : Int), (0 : Int), (0 : Int), (0 : Int), ByteArray.empty⟩ : Ins)].take (1 : Int).toNat)⟩ : Me) r20 hr21) (by repeat (first | exact trivial | exact rfl | (refine And.intro ?_ ?_))) trivial rfl ?_
            refine bselT hb16 ?_
            refine bselT hb16 ?_
            refine bselT hb16 ?_
            refine qn10 _ _ ?_
            obtain rfl := Option.some.inj h4
            refine EOk.done ?_
            exact ⟨⟨_, rfl⟩, [], trivial, ⟨⟨rfl, trivial⟩, trivial, rfl, rfl⟩⟩
          · refine bselF hb16 ?_
            refine bselF hb16 ?_
            refine bselF hb16 ?_
            refine bselF hb16 ?_
            refine bselF hb16 ?_
            refine bselF hb16 ?_
            refine bselF hb16 ?_
            refine bselF hb16 ?_
            refine qn10 _ _ ?_
            obtain rfl := Option.some.inj h4
            refine EOk.done ?_
            exact ⟨⟨_, rfl⟩, [], trivial, ⟨⟨rfl, trivial⟩, trivial, rfl, rfl⟩⟩
        · refine bselF hb11 ?_
          refine bselF hb11 ?_
          refine bselF hb11 ?_
          refine bselF hb11 ?_
          refine bselF hb11 ?_
          refine qn10 _ _ ?_
          obtain rfl := Option.some.inj h4
          refine EOk.done ?_
          exact ⟨⟨_, rfl⟩, [], trivial, ⟨⟨rfl, trivial⟩, trivial, rfl, rfl⟩⟩
      · refine bselF hb8 ?_
        refine bselF hb8 ?_
        refine bselF hb8 ?_
        refine bselF hb8 ?_
        refine qn10 _ _ ?_
        obtain rfl := Option.some.inj h4
        refine EOk.done ?_
        exact ⟨⟨_, rfl⟩, [], trivial, ⟨⟨rfl, trivial⟩, trivial, rfl, rfl⟩⟩
    · refine bselF hb6 ?_
      refine bselF hb6 ?_
      refine bselF hb6 ?_
      refine qn10 _ _ ?_
      obtain rfl := Option.some.inj h4
      refine EOk.done ?_
      exact ⟨⟨_, rfl⟩, [], trivial, ⟨⟨rfl, trivial⟩, trivial, rfl, rfl⟩⟩
  rintro ⟨v3, hv_⟩
  replace hv_ := hv_.symm
  subst hv_
  refine qn9 _ _ ?_
  refine got hn ?_
  obtain rfl := Option.some.inj h
  exact ⟨[], _, rfl, (by repeat (first | exact trivial | exact rfl | (refine And.intro ?_ ?_))), trivial, rfl, rfl, rfl, rfl, rfl⟩

/- qclaw3.CodeCut -/
set_option maxRecDepth 100000 in
set_option maxHeartbeats 1000000 in
theorem qclaw3_CodeCut_ok (N : Nat) (a0 : Wd) (a1 : Int) (a2 : Me) (r : Bool) (h : qclaw3_CodeCut N a0 a1 a2 = some r) : Spec Try.prog 12 [] [.agg (eWd a0), .int a1, .agg (eMe a2)] (.bool r) [] [] := by
  refine Spec.of tabOk Try.func12 rfl Try.ntmps12 (by kernel_rfl) rfl rfl rfl fun Γ hn => ?_
  unfold qclaw3_CodeCut at h
  refine COk.seqQ fun Q19 qn19 qx19 qr19 => ?_
  refine gor hn ?_
  refine qn19 _ _ ?_
  refine COk.seqQ fun Q20 qn20 qx20 qr20 => ?_
  refine COk.seqQ fun Q21 qn21 qx21 qr21 => ?_
  refine gor hn ?_
  obtain ⟨r1, hr2, h⟩ := bindM h
  show CallOk Try.prog _ _ _ _
  refine CallOk.as (qclaw3_alive_ok N  r1 hr2) (by repeat (first | exact trivial | exact rfl | (refine And.intro ?_ ?_))) trivial rfl ?_
  refine qn21 _ _ ?_
  refine goc hn ?_
  refine bselM h (fun hb3 h => ?_) (fun hb3 h => ?_)
  · refine COk.seqQ fun Q23 qn23 qx23 qr23 => ?_
    refine gor hn ?_
    refine qn23 _ _ ?_
    refine got hn ?_
    refine qr20 _ _ ?_
    obtain rfl := Option.some.inj h
    exact ⟨[], _, rfl, (by repeat (first | exact trivial | exact rfl | (refine And.intro ?_ ?_))), trivial, rfl, rfl, rfl, rfl, rfl⟩
  · refine gok hn ?_
    refine qn20 _ _ ?_
    refine COk.seqQ fun Q24 qn24 qx24 qr24 => ?_
    refine COk.seqQ fun Q25 qn25 qx25 qr25 => ?_
    refine gor hn ?_
    obtain ⟨r4, hr5, h⟩ := bindM h
    show CallOk Try.prog _ _ _ _
    refine CallOk.as (code_Check_ok N a0 a1 a2 r4 hr5) (by repeat (first | exact trivial | exact rfl | (refine And.intro ?_ ?_))) trivial rfl ?_
    refine qn25 _ _ ?_
    refine goc hn ?_
    refine bselM h (fun hb6 h => ?_) (fun hb6 h => ?_)
    · refine COk.seqQ fun Q27 qn27 qx27 qr27 => ?_
      refine gor hn ?_
      refine qn27 _ _ ?_
      refine got hn ?_
      refine qr24 _ _ ?_
      obtain rfl := Option.some.inj h
      exact ⟨[], _, rfl, (by repeat (first | exact trivial | exact rfl | (refine And.intro ?_ ?_))), trivial, rfl, rfl, rfl, rfl, rfl⟩
    · refine gok hn ?_
      refine qn24 _ _ ?_
      refine COk.seqQ fun Q28 qn28 qx28 qr28 => ?_
      refine gor hn ?_
      obtain ⟨r7, hr8, h⟩ := bindM h
      show CallOk Try.prog _ _ _ _
      refine CallOk.as ((code_Heights_ok N a2 r7 hr8).sw 0 20) (by repeat (first | exact trivial | exact rfl | (refine And.intro ?_ ?_))) trivial rfl ?_
      refine qn28 _ _ ?_
      refine COk.seqQ fun Q29 qn29 qx29 qr29 => ?_
      refine COk.sub (ts2 := [(1, .int a1), (3, .ptr 3 0), (5, .ptr 5 0), (7, .own 20)]) (os2 := [(3, .box (eWd a0) 55), (5, .box (eMe a2) 74), (20, .row 1 (List.map eInt r7.1) 3)]) [] ⟨⟨rfl, rfl, rfl, rfl, trivial⟩, ⟨rfl, rfl, rfl, trivial⟩, rfl, rfl⟩ (by rw [hn]; rfl) ?_
      refine gor hn ?_
      refine lenM (fun hl9 => ?_)
      refine Or.inr ?_
      refine qn29 _ _ ?_
      refine COk.seqQ fun Q30 qn30 qx30 qr30 => ?_
      refine COk.seqQ fun Q31 qn31 qx31 qr31 => ?_
      obtain ⟨o12, h11, h⟩ := bindM h
      refine COk.joinR (ι := { s : Bool // o12 = s }) (fun s => [(1, .int a1), (3, .ptr 3 0), (5, .ptr 5 0), (7, .own 20), (9, .int (wr ((a2.code.length : Int) - (1 : Int)))), (39, .bool s.1)]) (fun s => [(3, .box (eWd a0) 55), (5, .box (eMe a2) 74), (20, .row 1 (List.map eInt r7.1) 3)]) (fun Q32 qn32 qx32 qr32 => ?_) (by intro s; rw [hn]; rfl) ?_
      · refine gor hn ?_
        refine lenM (fun hl13 => ?_)
        refine lenM (fun hl14 => ?_)
        refine bselM h11 (fun hb15 h11 => ?_) (fun hb15 h11 => ?_)
        · refine bselT hb15 ?_
          refine bselT hb15 ?_
          refine bselT hb15 ?_
          refine bselT hb15 ?_
          refine bselT hb15 ?_
          refine qn32 _ _ ?_
          obtain rfl := Option.some.inj h11
          refine EOk.done ?_
          exact ⟨⟨_, rfl⟩, [], trivial, ⟨⟨rfl, rfl, rfl, rfl, rfl, rfl, trivial⟩, ⟨rfl, rfl, rfl, trivial⟩, rfl, rfl⟩⟩
        · refine bselF hb15 ?_
          refine bselF hb15 ?_
          obtain ⟨x16, hx17, h11⟩ := bindM h11
          refine ownM hx17 ?_
          refine bselF hb15 ?_
          refine ldM (nthO_some hx17).2 ?_
          refine bselF hb15 ?_
          refine bselF hb15 ?_
          refine qn32 _ _ ?_
          obtain rfl := Option.some.inj h11
          refine EOk.done ?_
          exact ⟨⟨_, rfl⟩, [], trivial, ⟨⟨rfl, rfl, rfl, rfl, rfl, rfl, trivial⟩, ⟨rfl, rfl, rfl, trivial⟩, rfl, rfl⟩⟩
      rintro ⟨v10, hv_⟩
      replace hv_ := hv_.symm
      subst hv_
      refine qn31 _ _ ?_
      refine goc hn ?_
      refine bselM h (fun hb18 h => ?_) (fun hb18 h => ?_)
      · refine COk.seqQ fun Q34 qn34 qx34 qr34 => ?_
        refine gor hn ?_
        refine lenM (fun hl19 => ?_)
        refine lenM (fun hl20 => ?_)
        refine qn34 _ _ ?_
        refine got hn ?_
        refine qr30 _ _ ?_
        obtain rfl := Option.some.inj h
        exact ⟨[], _, rfl, (by repeat (first | exact trivial | exact rfl | (refine And.intro ?_ ?_))), trivial, rfl, rfl, rfl, rfl, rfl⟩
      · refine gok hn ?_
        refine qn30 _ _ ?_
        refine COk.seqQ fun Q35 qn35 qx35 qr35 => ?_
        refine gor hn ?_
        obtain ⟨hg21, h⟩ := guardM h
        refine takeM hg21 rfl rfl ?_
        refine qn35 _ _ ?_
        refine COk.seqQ fun Q36 qn36 qx36 qr36 => ?_
        refine gor hn ?_
        obtain ⟨r22, hr23, h⟩ := bindM h
        show CallOk Try.prog _ _ _ _
        refine CallOk.as (code_Check_ok N a0 a1 (⟨a2.name, a2.args, a2.temps, a2.prim, (a2.code.take (wr ((a2.code.length : Int) - (1 : Int))).toNat)⟩ : Me) r22 hr23) (by repeat (first | exact trivial | exact rfl | (refine And.intro ?_ ?_))) trivial rfl ?_
        refine qn36 _ _ ?_
        refine got hn ?_
        obtain rfl := Option.some.inj h
        exact ⟨[], _, rfl, (by repeat (first | exact trivial | exact rfl | (refine And.intro ?_ ?_))), trivial, rfl, rfl, rfl, rfl, rfl⟩
end Go.Proofs.Ytioalgofaiideaa
