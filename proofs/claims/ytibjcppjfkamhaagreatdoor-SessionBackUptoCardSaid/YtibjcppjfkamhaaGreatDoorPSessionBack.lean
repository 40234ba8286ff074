import Derived.Test.YtibjcppjfkamhaaGreatDoorCards
import Derived.Test.YtibjcppjfkamhaaGreatDoorTie
import Derived.Deep.DeepHandedRow
import Derived.Deep.DeepWitnessRowRef
import Derived.LaidMore
import Derived.SevenTiedAt
import Derived.LaidHandle
import Derived.Test.YtibjcppjfkamhaaGreatDoorD7
import Derived.Test.YtibjcppjfkamhaaGreatDoorF
namespace Go.Proofs.YtibjcppjfkamhaaGreatDoor
open Go.ChangeShapes Go.WideShapes Go.ChangeAt Go.RowKit Go.Deep
namespace sessionBack
theorem aL : ownKnob Tryz.prog.godebug=none:=y7
theorem readable : ∀t∈Tryz.f9.params.toList,Tryz.prog.readableRec t=true/\t<Tryz.prog.types.size:=by
  have h:(Tryz.f9.params.toList.all fun t=>Tryz.prog.readableRec t && decide (t<Tryz.prog.types.size))=true:=y7;intro t a;have:=List.all_eq_true.1 h t a;simpa using this
theorem met (os:Go.Os):laidMetH Tryz.prog Rows.sessionBackUptoRow.laid ((World.doorLaid Tryz.prog 62 os).forCall (fun _ _=>0) ⟨#[],#[.slice none 0 0,.slice none 0 0],[]⟩).memory :=
  laidMetH_of_parts3 (fuel :=8) (laidMet_of_run' 8 y7 y7) y7 y7
theorem reads (os:Go.Os) {H:Type} (enc:TypeId×Value->H):∃a,DataW.whole enc Tryz.prog ((World.doorLaid Tryz.prog 62 os).forCall (fun _ _=>0) ⟨#[],#[.slice none 0 0,.slice none 0 0],[]⟩).memory Tryz.f9.params.toList Rows.sessionBackSpec.vars false #[Value.slice none 0 0,.slice none 0 0].toList 12=some ([.nil,.nil],[],a) :=
  ⟨[],y7⟩
set_option maxRecDepth 100000 in
theorem lifted (os:Go.Os) (b:os.Started) (H:Type) (enc:TypeId×Value->H) (F:Stop.Interp) :
    ReturnsInHanded {} Tryz.checked os 9 .any ((Rows.OpenSpec.upto Rows.sessionBackSpec).preRow enc Tryz.prog Tryz.f9 Rows.sessionBackUptoRow.domain false Rows.sessionBackUptoRow.laid) (((Rows.OpenSpec.upto Rows.sessionBackSpec).at F).post enc Tryz.prog Tryz.f9 false true false false):=by
  obtain⟨m,hx⟩:=reads os enc;refine returnsInHanded_of_row (C:=Tryz.checked) (s:=Rows.OpenSpec.upto Rows.sessionBackSpec) aL b y7 Tryz.func9
    (witness_row_atRef (enc:=enc) (C:=Tryz.checked) false (World.doorLaid Tryz.prog 62 os) #[.slice none 0 0,.slice none 0 0] rfl y7 y7 y7
      (OpenSpec.preRow_of_cond 12 hx y7 (fun k z=>by cases z;kernel_rfl) y7 (met os))) ?_
  intro W base args P gs c f r _ l _ hL D _;have hG:jx W:=jx.oQ hL y7 y7 D;have z:Rows.uptoSmall H (P++gs)=true:=l _ rfl;have a:∀(j:Nat) t v,Tryz.f9.params[j]?=some t->args[j]?=some v->Value.okWide Tryz.prog W .any base t v:=f;have u:=r;have A:∀p∈c,p.block<W.heap.size:=fun p d=>r.lt p d;obtain⟨p,q,i,hV,rfl,hfz,hnd⟩:=r;have Q:DataW.TrodAll enc Tryz.prog W 0 (fun _=>true) true Tryz.f9.params.toList args.toList P p:=i;rw[Tryz.params9] at Q a;obtain⟨S,vs0,U,X,p0,q0,w,rfl,rfl,Z,r0⟩:=trodAll_cons Q;obtain⟨T,vs1,V,Y,p1,q1,rfl,rfl,rfl,h1,r1⟩:=trodAll_cons r0;obtain⟨rfl,rfl,rfl⟩:=trodAll_nil r1;obtain rfl:args=#[S,T]:=by cases args;simp_all
  obtain⟨rfl,rfl⟩:=trodVars_none hV;obtain⟨A0,n0,c0,rfl⟩:=okWide_slice Tryz.underlying23 (a 0 23 S rfl rfl);obtain⟨n,x⟩:=Z;obtain⟨M,K,_,_,I,g⟩:=DY.out x;replace g:(dp fb) M<=Rows.uptoBulk U:=g;obtain⟨A1,n1,c1,rfl⟩:=okWide_slice Tryz.underlying23 (a 1 23 T rfl rfl);obtain⟨o,y⟩:=h1;obtain⟨O,L,_,_,J,h⟩:=DY.out y;replace h:(dp fb) O<=Rows.uptoBulk V:=h;have E:=IB z;simp only[List.append_nil,Rows.uptoBulkAll] at E;have B:y9 (tS W) W #[_,_].toList [_,_]:=.cons (Dd K) (.cons (Dd L) (.nil));obtain⟨N,hN⟩:=GG M O I J d9;refine(Spec.zL (Ep hN) hG B).mono fun e W' ⟨he,R⟩=>?_;subst he;exact⟨_,rfl,Gs (s:=Rows.sessionBackSpec) (pv:=[]) u (fun _ _ _=>(trodAll_cons_mk (shut_bool Tryz.underlying4 _) trodAll_mk0)) (fun sp G=>B6 y7 R sp readable i (fun p d=>A p (by first|simpa using Or.inl d|simpa using d)) (fun p d=>G p (by first|simpa using Or.inl d|simpa using d))) (fun _ _=>rfl) rfl
    R (ok_one y7 rfl (okWide_bool_mk Tryz.underlying4 _))⟩
theorem over : Rows.SessionBackUptoSaid :=
  OpenClaim.holds_of_cond 9 Tryz.f9 rfl rfl rfl rfl rfl rfl rfl ⟨rfl,rfl,rfl,rfl,rfl⟩ rfl rfl rfl rfl rfl y7 Tryz.func9 y7
    (of_decide_eq_true y7) (by unfold Func.isWrapper;first|(rw[if_pos (by decide +kernel)];kernel_rfl)|(rw[if_neg (by decide +kernel)];exact⟨rfl,rfl⟩))
    (fun os a H enc _ F=>by rw[OpenClaim.pre_eq_preRow];exact lifted os a H enc F)
theorem plain (f : FuncId) (fn : Func) (d : Tryz.pinned.checked.prog.funcNamed "quickchange/qclaw12.SessionBack" = some f) (b : Tryz.pinned.checked.prog.funcs[f]? = some fn) :
    true=Tryz.pinned.checked.prog.looks []/\∀(j:Nat) t,fn.params[j]?=some t->Tryz.pinned.checked.prog.wantsStandIn t=false:=by
  obtain rfl : f = 9 := Option.some.inj ((show Tryz.prog.funcNamed "quickchange/qclaw12.SessionBack" = some 9 by kernel_rfl).symm.trans d) |>.symm;obtain rfl:fn=Tryz.f9:=(Option.some.inj (Tryz.func9.symm.trans b)).symm;refine ⟨y7,fun j t c=>?_⟩;rw [Tryz.params9] at c;have e:t∈[23,23]:=by simpa using Array.mem_of_getElem? c
  have a:([23,23].all fun u=>!Tryz.prog.wantsStandIn u)=true:=y7;exact(show Tryz.prog.wantsStandIn t=false by simpa using List.all_eq_true.1 a t e)
theorem proved : Rows.SessionBackUptoCardSaid :=
  Claim7.holds_tied_plain_at .later [] _ _ _ _ over (fun _ h=>by cases h) y7 (fun _ h=>by cases h) sessionBackUpto_row_tie rfl ⟨rfl,rfl⟩ y7 rfl plain y7
end sessionBack
end Go.Proofs.YtibjcppjfkamhaaGreatDoor
