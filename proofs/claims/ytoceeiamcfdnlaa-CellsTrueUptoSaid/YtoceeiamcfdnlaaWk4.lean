/- Walks after the mirrors. Printed by mir.py. -/
import Derived.Test.YtoceeiamcfdnlaaWk3
namespace Go.Proofs.Ytoceeiamcfdnlaa
open Go.RowKit
set_option linter.unusedVariables false
/- qclaw6.CellsTrue -/
set_option maxRecDepth 100000 in
set_option maxHeartbeats 1000000 in
theorem qclaw6_CellsTrue_ok (N : Nat) (a0 : Wd) (a1 : (List St)) (a2 : (List Int)) (a3 : ByteArray) (r : Bool) (h : qclaw6_CellsTrue N a0 a1 a2 a3 = some r) : Spec Try.prog 4 [] [.agg (eWd a0), .sl 3 (List.map eSt a1), .sl 1 (List.map eInt a2), .str a3] (.bool r) [] [] := by
  refine Spec.of tabOk Try.func4 rfl Try.ntmps4 (by kernel_rfl) rfl rfl rfl fun Γ hn => ?_
  unfold qclaw6_CellsTrue at h
  refine COk.seqQ fun Q144 qn144 qx144 qr144 => ?_
  refine gor hn ?_
  refine qn144 _ _ ?_
  refine COk.seqQ fun Q145 qn145 qx145 qr145 => ?_
  refine COk.seqQ fun Q146 qn146 qx146 qr146 => ?_
  refine gor hn ?_
  obtain ⟨r1, hr2, h⟩ := bindM h
  show CallOk Try.prog _ _ _ _
  refine CallOk.as (qclaw6_alive_ok N  r1 hr2) (by repeat (first | exact trivial | exact rfl | (refine And.intro ?_ ?_))) trivial rfl ?_
  refine qn146 _ _ ?_
  refine goc hn ?_
  refine bselM h (fun hb3 h => ?_) (fun hb3 h => ?_)
  · refine COk.seqQ fun Q148 qn148 qx148 qr148 => ?_
    refine gor hn ?_
    refine qn148 _ _ ?_
    refine got hn ?_
    refine qr145 _ _ ?_
    obtain rfl := Option.some.inj h
    exact ⟨[], _, rfl, (by repeat (first | exact trivial | exact rfl | (refine And.intro ?_ ?_))), trivial, rfl, rfl, rfl, rfl, rfl⟩
  · refine gok hn ?_
    refine qn145 _ _ ?_
    refine COk.seqQ fun Q149 qn149 qx149 qr149 => ?_
    refine COk.seqQ fun Q150 qn150 qx150 qr150 => ?_
    refine gor hn ?_
    obtain ⟨r4, hr5, h⟩ := bindM h
    show CallOk Try.prog _ _ _ _
    refine CallOk.as (qcref1_Right_ok N a0 r4 hr5) (by repeat (first | exact trivial | exact rfl | (refine And.intro ?_ ?_))) trivial rfl ?_
    refine qn150 _ _ ?_
    refine goc hn ?_
    refine bselM h (fun hb6 h => ?_) (fun hb6 h => ?_)
    · refine COk.seqQ fun Q152 qn152 qx152 qr152 => ?_
      refine gor hn ?_
      refine qn152 _ _ ?_
      refine got hn ?_
      refine qr149 _ _ ?_
      obtain rfl := Option.some.inj h
      exact ⟨[], _, rfl, (by repeat (first | exact trivial | exact rfl | (refine And.intro ?_ ?_))), trivial, rfl, rfl, rfl, rfl, rfl⟩
    · refine gok hn ?_
      refine qn149 _ _ ?_
      refine COk.seqQ fun Q153 qn153 qx153 qr153 => ?_
      refine gor hn ?_
      refine qn153 _ _ ?_
      refine COk.seqQ fun Q154 qn154 qx154 qr154 => ?_
      refine COk.seqQ fun Q155 qn155 qx155 qr155 => ?_
      refine gor hn ?_
      refine lenM (fun hl7 => ?_)
      refine qn155 _ _ ?_
      refine COk.nilrow 9 209 6 49 rfl rfl rfl ?_
      obtain ⟨o11, h12, h⟩ := bindM h
      refine COk.joinR (ι := { s : Unit // o11 = Ctl.next s }) (fun s => []) (fun s => []) (fun Q256 qn256 qx256 qr256 => ?_) (by intro s; rw [hn]; rfl) ?_
      · refine COk.blkQ fun Q257 qn257 qe257 qx257 qr257 => ?_
        refine COk.loopQ (ι := { q : ((List St) × Nat × (List Ce)) // q.1 = a1.drop q.2.1 ∧ qclaw6_CellsTrue_l1 N a0 a2 a3 q.1 q.2.1 q.2.2 = some o11 }) (fun q => [(2, .sl 1 (List.map eInt a2)), (3, .str a3), (4, .ptr 4 0), (9, .own 209), (23, .sl 3 (List.map eSt a1)), (24, .int (a1.length : Int)), (25, .int (q.1.2.1 : Int))]) (fun q => [(4, .box (eWd a0) 26), (209, .row 6 (List.map eCe q.1.2.2) 49)]) (fun q => q.1.1.length) ⟨(a1, 0, ([] : List Ce)), rfl, h12⟩ [] ⟨⟨(by repeat (first | exact trivial | exact rfl | (refine And.intro ?_ ?_))), rfl, rfl, rfl, (by repeat (first | exact trivial | exact rfl | (refine And.intro ?_ ?_))), rfl, rfl, trivial⟩, ⟨rfl, rfl, trivial⟩, rfl, rfl⟩ (by intro q; rw [hn]; rfl) ?_
        rintro ⟨⟨rest_, k8, v9⟩, hd14, h12⟩ Q258 qn258 qx258 qr258
        replace hd14 : rest_ = a1.drop k8 := hd14
        rcases rest_ with _ | ⟨x16, rest13⟩
        · have hlt18 := restNil hd14
          replace h12 := (qclaw6_CellsTrue_l1.eq_1 _ _ _ _ _ _).symm.trans h12
          refine COk.seqQ fun Q259 qn259 qx259 qr259 => ?_
          refine gor hn ?_
          refine qn259 _ _ ?_
          refine COk.seqQ fun Q260 qn260 qx260 qr260 => ?_
          refine goc hn ?_
          refine bselF hlt18 ?_
          refine goe hn ?_
          refine qx260 _ _ _ ?_
          refine qx258 _ _ _ ?_
          refine qe257 _ _ ?_
          refine qn256 _ _ ?_
          obtain rfl := Option.some.inj h12
          refine EOk.done ?_
          exact ⟨⟨_, rfl⟩, [], trivial, ⟨trivial, trivial, rfl, rfl⟩⟩
        · obtain ⟨hx17, hd2, hlt18⟩ := restCons hd14
          replace h12 := (qclaw6_CellsTrue_l1.eq_2 _ _ _ _ _ _ _ _).symm.trans h12
          refine COk.seqQ fun Q261 qn261 qx261 qr261 => ?_
          refine gor hn ?_
          refine qn261 _ _ ?_
          refine COk.seqQ fun Q262 qn262 qx262 qr262 => ?_
          refine goc hn ?_
          refine bselT hlt18 ?_
          refine gok hn ?_
          refine qn262 _ _ ?_
          refine COk.seqQ fun Q263 qn263 qx263 qr263 => ?_
          refine COk.blkQ fun Q275 qn275 qe275 qx275 qr275 => ?_
          refine COk.seqQ fun Q276 qn276 qx276 qr276 => ?_
          refine gor hn ?_
          refine idxK hx17 ?_
          refine qn276 _ _ ?_
          refine COk.seqQ fun Q277 qn277 qx277 qr277 => ?_
          refine COk.seqQ fun Q278 qn278 qx278 qr278 => ?_
          refine gor hn ?_
          refine lenM (fun hl19 => ?_)
          refine qn278 _ _ ?_
          refine goc hn ?_
          refine bselM h12 (fun hb20 h12 => ?_) (fun hb20 h12 => ?_)
          · refine goe hn ?_
            refine qx277 _ _ _ ?_
            refine qx275 _ _ _ rfl ?_
            refine qx263 _ _ _ ?_
            refine qx258 _ _ _ ?_
            refine qe257 _ _ ?_
            refine qn256 _ _ ?_
            obtain rfl := Option.some.inj h12
            refine EOk.done ?_
            exact ⟨⟨_, rfl⟩, [], trivial, ⟨trivial, trivial, rfl, rfl⟩⟩
          · refine gok hn ?_
            refine qn277 _ _ ?_
            refine COk.seqQ fun Q279 qn279 qx279 qr279 => ?_
            refine COk.fzAll 209 rfl ?_
            refine COk.sub (ts2 := [(2, .sl 1 (List.map eInt a2)), (3, .str a3), (4, .ptr 4 0), (9, .sl 6 (List.map eCe v9)), (10, .int (k8 : Int)), (11, .ptr 11 0), (23, .sl 3 (List.map eSt a1)), (24, .int (a1.length : Int)), (25, .int (k8 : Int))]) (os2 := [(4, .box (eWd a0) 26), (11, .box (eSt x16) 28)]) [] ⟨⟨(by repeat (first | exact trivial | exact rfl | (refine And.intro ?_ ?_))), rfl, rfl, (by repeat (first | exact trivial | exact rfl | (refine And.intro ?_ ?_))), rfl, rfl, (by repeat (first | exact trivial | exact rfl | (refine And.intro ?_ ?_))), rfl, rfl, trivial⟩, ⟨rfl, rfl, trivial⟩, rfl, rfl⟩ (by rw [hn]; rfl) ?_
            refine god hn (by kernel_rfl) ?_
            obtain ⟨x21, hx22, h12⟩ := bindM h12
            refine idxM hx22 ?_
            obtain ⟨r23, hr24, h12⟩ := bindM h12
            show CallOk Try.prog _ _ _ _
            refine CallOk.as ((cells_Find_ok N v9 a0 x16 x21 a3 r23 hr24).sw 0 43) (by repeat (first | exact trivial | exact rfl | (refine And.intro ?_ ?_))) trivial rfl ?_
            refine qn279 _ _ ?_
            refine COk.seqQ fun Q280 qn280 qx280 qr280 => ?_
            refine COk.sub (ts2 := [(2, .sl 1 (List.map eInt a2)), (3, .str a3), (4, .ptr 4 0), (10, .int (k8 : Int)), (12, .own 43), (13, .int r23.2.1), (14, .int r23.2.2.1), (23, .sl 3 (List.map eSt a1)), (24, .int (a1.length : Int)), (25, .int (k8 : Int))]) (os2 := [(4, .box (eWd a0) 26), (43, .row 6 (List.map eCe r23.1) 49)]) [] ⟨⟨(by repeat (first | exact trivial | exact rfl | (refine And.intro ?_ ?_))), rfl, rfl, rfl, rfl, rfl, rfl, (by repeat (first | exact trivial | exact rfl | (refine And.intro ?_ ?_))), rfl, rfl, trivial⟩, ⟨rfl, rfl, trivial⟩, rfl, rfl⟩ (by rw [hn]; rfl) ?_
            refine god hn (by kernel_rfl) ?_
            obtain ⟨x25, hx26, h12⟩ := bindM h12
            refine idxM hx26 ?_
            obtain ⟨r27, hr28, h12⟩ := bindM h12
            show CallOk Try.prog _ _ _ _
            refine CallOk.as (qcref1_Find_ok N a0 x25 a3 r27 hr28) (by repeat (first | exact trivial | exact rfl | (refine And.intro ?_ ?_))) trivial rfl ?_
            refine qn280 _ _ ?_
            refine COk.seqQ fun Q281 qn281 qx281 qr281 => ?_
            refine COk.seqQ fun Q282 qn282 qx282 qr282 => ?_
            obtain ⟨o31, h30, h12⟩ := bindM h12
            refine COk.joinR (ι := { s : Bool // o31 = s }) (fun s => [(2, .sl 1 (List.map eInt a2)), (3, .str a3), (4, .ptr 4 0), (12, .own 43), (23, .sl 3 (List.map eSt a1)), (24, .int (a1.length : Int)), (25, .int (k8 : Int)), (65, .bool s.1)]) (fun s => [(4, .box (eWd a0) 26), (43, .row 6 (List.map eCe r23.1) 49)]) (fun Q283 qn283 qx283 qr283 => ?_) (by intro s; rw [hn]; rfl) ?_
            · refine COk.sub (ts2 := [(2, .sl 1 (List.map eInt a2)), (3, .str a3), (4, .ptr 4 0), (12, .own 43), (13, .int r23.2.1), (14, .int r23.2.2.1), (16, .int r27.1), (17, .int r27.2), (23, .sl 3 (List.map eSt a1)), (24, .int (a1.length : Int)), (25, .int (k8 : Int))]) (os2 := [(4, .box (eWd a0) 26), (43, .row 6 (List.map eCe r23.1) 49)]) [] ⟨⟨(by repeat (first | exact trivial | exact rfl | (refine And.intro ?_ ?_))), rfl, rfl, rfl, rfl, rfl, rfl, rfl, (by repeat (first | exact trivial | exact rfl | (refine And.intro ?_ ?_))), rfl, rfl, trivial⟩, ⟨rfl, rfl, trivial⟩, rfl, rfl⟩ (by rw [hn]; rfl) ?_
              refine gor hn ?_
              refine bselM h30 (fun hb32 h30 => ?_) (fun hb32 h30 => ?_)
              · refine bselT hb32 ?_
                refine bselT hb32 ?_
                refine bselT hb32 ?_
                refine qn283 _ _ ?_
                obtain rfl := Option.some.inj h30
                refine EOk.done ?_
                exact ⟨⟨_, rfl⟩, [], trivial, ⟨⟨(by repeat (first | exact trivial | exact rfl | (refine And.intro ?_ ?_))), rfl, rfl, rfl, (by repeat (first | exact trivial | exact rfl | (refine And.intro ?_ ?_))), rfl, rfl, rfl, trivial⟩, ⟨rfl, rfl, trivial⟩, rfl, rfl⟩⟩
              · refine bselF hb32 ?_
                refine bselF hb32 ?_
                refine bselF hb32 ?_
                refine qn283 _ _ ?_
                obtain rfl := Option.some.inj h30
                refine EOk.done ?_
                exact ⟨⟨_, rfl⟩, [], trivial, ⟨⟨(by repeat (first | exact trivial | exact rfl | (refine And.intro ?_ ?_))), rfl, rfl, rfl, (by repeat (first | exact trivial | exact rfl | (refine And.intro ?_ ?_))), rfl, rfl, rfl, trivial⟩, ⟨rfl, rfl, trivial⟩, rfl, rfl⟩⟩
            rintro ⟨v29, hv_⟩
            replace hv_ := hv_.symm
            subst hv_
            refine qn282 _ _ ?_
            refine goc hn ?_
            refine bselM h12 (fun hb33 h12 => ?_) (fun hb33 h12 => ?_)
            · refine COk.seqQ fun Q285 qn285 qx285 qr285 => ?_
              refine gor hn ?_
              refine qn285 _ _ ?_
              refine got hn ?_
              refine qr281 _ _ ?_
              refine qr275 _ _ ?_
              refine qr263 _ _ ?_
              refine qr258 _ _ ?_
              refine qr257 _ _ ?_
              refine qr256 _ _ ?_
              refine qr154 _ _ ?_
              obtain rfl := Option.some.inj h12
              obtain rfl := Option.some.inj h
              exact ⟨[], _, rfl, (by repeat (first | exact trivial | exact rfl | (refine And.intro ?_ ?_))), trivial, rfl, rfl, rfl, rfl, rfl⟩
            · refine gok hn ?_
              refine qn281 _ _ ?_
              refine gor hn ?_
              refine qn275 _ _ ?_
              refine qn263 _ _ ?_
              refine gor hn ?_
              refine Or.inl (And.intro (inrK hx17 hl7) ?_)
              refine qn258 _ _ ?_
              refine EOk.done ?_
              exact ⟨⟨(rest13, k8 + 1, r23.1), hd2, h12⟩, [(209, 43)], by show rest13.length < rest13.length + 1; omega, ⟨⟨(by repeat (first | exact trivial | exact rfl | (refine And.intro ?_ ?_))), rfl, rfl, rfl, (by repeat (first | exact trivial | exact rfl | (refine And.intro ?_ ?_))), rfl, rfl, trivial⟩, ⟨rfl, rfl, trivial⟩, rfl, rfl⟩⟩
      rintro ⟨⟨⟩, rfl⟩
      refine qn154 _ _ ?_
      refine COk.seqQ fun Q286 qn286 qx286 qr286 => ?_
      refine gor hn ?_
      refine qn286 _ _ ?_
      refine got hn ?_
      obtain rfl := Option.some.inj h
      exact ⟨[], _, rfl, (by repeat (first | exact trivial | exact rfl | (refine And.intro ?_ ?_))), trivial, rfl, rfl, rfl, rfl, rfl⟩
end Go.Proofs.Ytoceeiamcfdnlaa
