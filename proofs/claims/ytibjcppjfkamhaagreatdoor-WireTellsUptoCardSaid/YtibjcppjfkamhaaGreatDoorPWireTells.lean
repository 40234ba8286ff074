import Derived.Test.YtibjcppjfkamhaaGreatDoorCards
import Derived.Test.YtibjcppjfkamhaaGreatDoorTie
import Derived.Deep.DeepHandedRow
import Derived.Deep.DeepWitnessRowRef
import Derived.LaidMore
import Derived.SevenTiedAt
import Derived.LaidHandle
import Derived.Test.YtibjcppjfkamhaaGreatDoorD
import Derived.Test.YtibjcppjfkamhaaGreatDoorE
namespace Go.Proofs.YtibjcppjfkamhaaGreatDoor
open Go.ChangeShapes Go.WideShapes Go.ChangeAt Go.RowKit Go.Deep
namespace wireTells
theorem aG : ownKnob Tryz.prog.godebug=none:=o7
theorem readable : ∀t∈Tryz.f5.params.toList,Tryz.prog.readableRec t=true/\t<Tryz.prog.types.size:=by
  have h:(Tryz.f5.params.toList.all fun t=>Tryz.prog.readableRec t && decide (t<Tryz.prog.types.size))=true:=o7;intro t a;have:=List.all_eq_true.1 h t a;simpa using this
theorem met (os:Go.Os):laidMetH Tryz.prog Rows.wireTellsUptoRow.laid ((World.doorLaid Tryz.prog 62 os).forCall (fun _ _=>0) ⟨#[],#[.agg #[.slice none 0 0,.slice none 0 0,.int .i64 0],.slice none 0 0],[]⟩).memory :=
  laidMetH_of_parts3 (fuel:=8) (laidMet_of_run' 8 o7 o7) o7 o7
theorem reads (os:Go.Os) {H:Type} (enc:TypeId×Value->H):∃a,DataW.whole enc Tryz.prog ((World.doorLaid Tryz.prog 62 os).forCall (fun _ _=>0) ⟨#[],#[.agg #[.slice none 0 0,.slice none 0 0,.int .i64 0],.slice none 0 0],[]⟩).memory Tryz.f5.params.toList Rows.wireTellsSpec.vars false #[Value.agg #[.slice none 0 0,.slice none 0 0,.int .i64 0],.slice none 0 0].toList 12=some ([.agg [.nil,.nil,.lit (.int .i64 0)],.nil],[],a) :=
  ⟨[],o7⟩
set_option maxRecDepth 100000 in
theorem lifted (os:Go.Os) (b:os.Started) (H:Type) (enc:TypeId×Value->H) (F:Stop.Interp) :
    ReturnsInHanded {} Tryz.checked os 5 .any ((Rows.OpenSpec.upto Rows.wireTellsSpec).preRow enc Tryz.prog Tryz.f5 Rows.wireTellsUptoRow.domain false Rows.wireTellsUptoRow.laid) (((Rows.OpenSpec.upto Rows.wireTellsSpec).at F).post enc Tryz.prog Tryz.f5 false true false false):=by
  obtain⟨n,hx⟩:=reads os enc;refine returnsInHanded_of_row (C:=Tryz.checked) (s:=Rows.OpenSpec.upto Rows.wireTellsSpec) aG b o7 Tryz.func5
    (witness_row_atRef (enc:=enc) (C:=Tryz.checked) false (World.doorLaid Tryz.prog 62 os) #[.agg #[.slice none 0 0,.slice none 0 0,.int .i64 0],.slice none 0 0] rfl o7 o7 o7
      (OpenSpec.preRow_of_cond 12 hx o7 (fun k A=>by cases A;kernel_rfl) o7 (met os))) ?_
  intro W g args Q gs c f u _ m _ hL E _;have hG:fA W:=fA.gv hL o7 o7 E;have A:Rows.uptoSmall H (Q++gs)=true:=m _ rfl;have a:∀(j:Nat) t v,Tryz.f5.params[j]?=some t->args[j]?=some v->Value.okWide Tryz.prog W .any g t v:=f;have w:=u;have B:∀p∈c,p.block<W.heap.size:=fun p d=>u.lt p d;obtain⟨p,q,l,hV,rfl,hfz,hnd⟩:=u;have R:DataW.TrodAll enc Tryz.prog W 0 (fun _=>true) true Tryz.f5.params.toList args.toList Q p:=l;rw[Tryz.params5] at R a;obtain⟨T,vs0,X,Z,p0,q0,x,rfl,rfl,h0,r0⟩:=trodAll_cons R;obtain⟨U,vs1,Y,ds1,p1,q1,rfl,rfl,rfl,h1,r1⟩:=trodAll_cons r0;obtain⟨rfl,rfl,rfl⟩:=trodAll_nil r1;obtain rfl:args=#[T,U]:=by cases args;simp_all
  obtain⟨rfl,rfl⟩:=trodVars_none hV;obtain⟨V,rfl,_⟩:=okWide_struct Tryz.underlying40 (a 0 40 T rfl rfl);obtain⟨o,y⟩:=h0;obtain⟨O,L,_,_,J,h⟩:=wi.out y;replace h:fx O<=Rows.uptoBulk X:=h;obtain⟨A1,n1,c1,rfl⟩:=okWide_slice Tryz.underlying43 (a 1 43 U rfl rfl);obtain⟨r,z⟩:=h1;obtain⟨P,M,_,_,K,i⟩:=wA.out z;replace i:(bI bE) P<=Rows.uptoBulk Y:=i;have G:=um A;simp only[List.append_nil,Rows.uptoBulkAll] at G;have D:l8 (jY W) W #[_,_].toList [_,_]:=.cons (wQ L) (.cons (wb M) (.nil));obtain⟨N,hN⟩:=tv O P J K d9;refine(Spec.oi (sg hN) hG D).mono fun e W' ⟨he,S⟩=>?_;subst he;exact⟨_,rfl,tt (s:=Rows.wireTellsSpec) (pv:=[]) w (fun _ _ _=>(trodAll_cons_mk (shut_bool Tryz.underlying4 _) trodAll_mk0)) (fun sp I=>qI o7 S sp readable l (fun p d=>B p (by first|simpa using Or.inl d|simpa using d)) (fun p d=>I p (by first|simpa using Or.inl d|simpa using d))) (fun _ _=>rfl) rfl
    S (ok_one o7 rfl (okWide_bool_mk Tryz.underlying4 _))⟩
theorem over : Rows.WireTellsUptoSaid :=
  OpenClaim.holds_of_cond 5 Tryz.f5 rfl rfl rfl rfl rfl rfl rfl ⟨rfl,rfl,rfl,rfl,rfl⟩ rfl rfl rfl rfl rfl o7 Tryz.func5 o7
    (of_decide_eq_true o7) (by unfold Func.isWrapper;first|(rw[if_pos (by decide +kernel)];kernel_rfl)|(rw[if_neg (by decide +kernel)];exact⟨rfl,rfl⟩))
    (fun os a H enc _ F=>by rw[OpenClaim.pre_eq_preRow];exact lifted os a H enc F)
theorem plain (f : FuncId) (fn : Func) (d : Tryz.pinned.checked.prog.funcNamed "quickchange/qclaw4.WireTells" = some f) (b : Tryz.pinned.checked.prog.funcs[f]? = some fn) :
    true=Tryz.pinned.checked.prog.looks []/\∀(j:Nat) t,fn.params[j]?=some t->Tryz.pinned.checked.prog.wantsStandIn t=false:=by
  obtain rfl : f = 5 := Option.some.inj ((show Tryz.prog.funcNamed "quickchange/qclaw4.WireTells" = some 5 by kernel_rfl).symm.trans d) |>.symm;obtain rfl:fn=Tryz.f5:=(Option.some.inj (Tryz.func5.symm.trans b)).symm;refine ⟨o7,fun j t c=>?_⟩;rw [Tryz.params5] at c;have e:t∈[40,43]:=by simpa using Array.mem_of_getElem? c
  have a:([40,43].all fun u=>!Tryz.prog.wantsStandIn u)=true:=o7;exact(show Tryz.prog.wantsStandIn t=false by simpa using List.all_eq_true.1 a t e)
theorem proved : Rows.WireTellsUptoCardSaid :=
  Claim7.holds_tied_plain_at .later [] _ _ _ _ over (fun _ h=>by cases h) o7 (fun _ h=>by cases h) wireTellsUpto_row_tie rfl ⟨rfl,rfl⟩ o7 rfl plain o7
end wireTells
end Go.Proofs.YtibjcppjfkamhaaGreatDoor
