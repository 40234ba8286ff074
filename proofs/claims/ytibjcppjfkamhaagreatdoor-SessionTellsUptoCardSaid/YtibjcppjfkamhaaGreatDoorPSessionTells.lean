import Derived.Test.YtibjcppjfkamhaaGreatDoorCards
import Derived.Test.YtibjcppjfkamhaaGreatDoorTie
import Derived.Deep.DeepHandedRow
import Derived.Deep.DeepWitnessRowRef
import Derived.LaidMore
import Derived.SevenTiedAt
import Derived.LaidHandle
import Derived.Test.YtibjcppjfkamhaaGreatDoorD
import Derived.Test.YtibjcppjfkamhaaGreatDoorF
namespace Go.Proofs.YtibjcppjfkamhaaGreatDoor
open Go.ChangeShapes Go.WideShapes Go.ChangeAt Go.RowKit Go.Deep
namespace sessionTells
theorem aN : ownKnob Tryz.prog.godebug=none:=D6
theorem readable : ∀t∈Tryz.f6.params.toList,Tryz.prog.readableRec t=true/\t<Tryz.prog.types.size:=by
  have h:(Tryz.f6.params.toList.all fun t=>Tryz.prog.readableRec t && decide (t<Tryz.prog.types.size))=true:=D6;intro t a;have:=List.all_eq_true.1 h t a;simpa using this
theorem met (os:Go.Os):laidMetH Tryz.prog Rows.sessionTellsUptoRow.laid ((World.doorLaid Tryz.prog 62 os).forCall (fun _ _=>0) ⟨#[],#[.slice none 0 0],[]⟩).memory :=
  laidMetH_of_parts3 (fuel:=8) (laidMet_of_run' 8 D6 D6) D6 D6
theorem reads (os:Go.Os) {H:Type} (enc:TypeId×Value->H):∃a,DataW.whole enc Tryz.prog ((World.doorLaid Tryz.prog 62 os).forCall (fun _ _=>0) ⟨#[],#[.slice none 0 0],[]⟩).memory Tryz.f6.params.toList Rows.sessionTellsSpec.vars false #[Value.slice none 0 0].toList 12=some ([.nil],[],a) :=
  ⟨[],D6⟩
set_option maxRecDepth 100000 in
theorem lifted (os:Go.Os) (a:os.Started) (H:Type) (enc:TypeId×Value->H) (F:Stop.Interp) :
    ReturnsInHanded {} Tryz.checked os 6 .any ((Rows.OpenSpec.upto Rows.sessionTellsSpec).preRow enc Tryz.prog Tryz.f6 Rows.sessionTellsUptoRow.domain false Rows.sessionTellsUptoRow.laid) (((Rows.OpenSpec.upto Rows.sessionTellsSpec).at F).post enc Tryz.prog Tryz.f6 false true false false):=by
  obtain⟨l,Y⟩:=reads os enc;refine returnsInHanded_of_row (C:=Tryz.checked) (s:=Rows.OpenSpec.upto Rows.sessionTellsSpec) aN a D6 Tryz.func6
    (witness_row_atRef (enc:=enc) (C:=Tryz.checked) false (World.doorLaid Tryz.prog 62 os) #[.slice none 0 0] rfl D6 D6 D6
      (OpenSpec.preRow_of_cond 12 Y D6 (fun k w=>by cases w;kernel_rfl) D6 (met os))) ?_
  intro W base args I gs b f n _ i _ R z _;have Q:kZ W:=kZ.qD R D6 D6 z;have w:Rows.uptoSmall H (I++gs)=true:=i _ rfl;have c:∀(j:Nat) t v,Tryz.f6.params[j]?=some t->args[j]?=some v->Value.okWide Tryz.prog W .any base t v:=f;have o:=n;have x:∀p∈b,p.block<W.heap.size:=fun p d=>n.lt p d;obtain⟨p,q,h,T,rfl,V,X⟩:=n;have J:DataW.TrodAll enc Tryz.prog W 0 (fun _=>true) true Tryz.f6.params.toList args.toList I p:=h;rw[Tryz.params6] at J c;obtain⟨L,vs0,M,O,p0,q0,r,rfl,rfl,P,Z⟩:=trodAll_cons J;obtain⟨rfl,rfl,rfl⟩:=trodAll_nil Z;obtain rfl:args=#[L]:=by cases args;simp_all
  obtain⟨rfl,rfl⟩:=trodVars_none T;obtain⟨A0,n0,c0,rfl⟩:=okWide_slice Tryz.underlying23 (c 0 23 L rfl rfl);obtain⟨m,u⟩:=P;obtain⟨G,E,_,_,D,g⟩:=Nk.out u;replace g:(eg kz) G<=Rows.uptoBulk M:=g;have A:=Lo w;simp only[List.append_nil,Rows.uptoBulkAll] at A;have y:D5 (d97 W) W #[_].toList [_]:=.cons (ON E) (.nil);obtain⟨N,S⟩:=IZ G D d9;refine(Spec.BR (Hj S) Q y).mono fun e W' ⟨U,K⟩=>?_;subst U;exact⟨_,rfl,IU (s:=Rows.sessionTellsSpec) (pv:=[]) o (fun _ _ _=>(trodAll_cons_mk (shut_bool Tryz.underlying4 _) trodAll_mk0)) (fun sp B=>DD D6 K sp readable h (fun p d=>x p (by first|simpa using Or.inl d|simpa using d)) (fun p d=>B p (by first|simpa using Or.inl d|simpa using d))) (fun _ _=>rfl) rfl
    K (ok_one D6 rfl (okWide_bool_mk Tryz.underlying4 _))⟩
theorem t0 : (Rows.sessionTellsUptoRow.inPlace == Tryz.pinned.checked.prog.inPlace 6)=true:=D6
theorem t1 : (Rows.sessionTellsUptoRow.unfollowed == Tryz.pinned.checked.prog.unfollowed 6)=true:=D6
theorem t2 : (Rows.sessionTellsUptoRow.recurses == Tryz.pinned.checked.prog.recurses 6)=true:=D6
theorem t3 : (Rows.sessionTellsUptoRow.named == Tryz.pinned.checked.prog.varsNamed 6)=true:=D6
theorem closed : joinedFacts Tryz.pinned.checked.prog 6 Tryz.f6 (Rows.OpenSpec.upto Rows.sessionTellsSpec).bare Rows.sessionTellsUptoRow=true:=by
  unfold joinedFacts;rw[t0,t1,t2,t3]
  kernel_rfl
theorem over : Rows.SessionTellsUptoSaid :=
  OpenClaim.holds_of_cond 6 Tryz.f6 rfl rfl rfl rfl rfl rfl rfl ⟨rfl,rfl,rfl,rfl,rfl⟩ rfl rfl rfl rfl rfl D6 Tryz.func6 closed
    (of_decide_eq_true D6) (by unfold Func.isWrapper;first|(rw[if_pos (by decide +kernel)];kernel_rfl)|(rw[if_neg (by decide +kernel)];exact⟨rfl,rfl⟩))
    (fun os a H enc _ F=>by rw[OpenClaim.pre_eq_preRow];exact lifted os a H enc F)
theorem plain (f : FuncId) (fn : Func) (d : Tryz.pinned.checked.prog.funcNamed "quickchange/qclaw12.SessionTells" = some f) (b : Tryz.pinned.checked.prog.funcs[f]? = some fn) :
    true=Tryz.pinned.checked.prog.looks []/\∀(j:Nat) t,fn.params[j]?=some t->Tryz.pinned.checked.prog.wantsStandIn t=false:=by
  obtain rfl : f = 6 := Option.some.inj ((show Tryz.prog.funcNamed "quickchange/qclaw12.SessionTells" = some 6 by kernel_rfl).symm.trans d) |>.symm;obtain rfl:fn=Tryz.f6:=(Option.some.inj (Tryz.func6.symm.trans b)).symm;refine ⟨D6,fun j t c=>?_⟩;rw [Tryz.params6] at c;have e:t∈[23]:=by simpa using Array.mem_of_getElem? c
  have a:([23].all fun u=>!Tryz.prog.wantsStandIn u)=true:=D6;exact(show Tryz.prog.wantsStandIn t=false by simpa using List.all_eq_true.1 a t e)
theorem proved : Rows.SessionTellsUptoCardSaid :=
  Claim7.holds_tied_plain_at .later [] _ _ _ _ over (fun _ h=>by cases h) D6 (fun _ h=>by cases h) sessionTellsUpto_row_tie rfl ⟨rfl,rfl⟩ D6 rfl plain D6
end sessionTells
end Go.Proofs.YtibjcppjfkamhaaGreatDoor
