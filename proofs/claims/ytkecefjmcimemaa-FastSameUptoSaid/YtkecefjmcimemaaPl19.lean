import Derived.Test.YtkecefjmcimemaaPl15
import Derived.Test.YtkecefjmcimemaaPl10
/- Plain laws of the mirrors: fast code, as the program and as the reference write it. No program in sight. -/
namespace Go.Proofs.Ytkecefjmcimemaa
open Go.RowKit
set_option linter.unusedVariables false
theorem dI6 {w:Wd} {c:Int} {m:Me} {i:Ins} (h:aO1 w c m i=0) (hl:w.classes.length≤1048576) (ha:m.args≤1000) (ht:m.temps≤1000) (hs:G5 w c≤1000000000) (hc:m.code.length≤1048576) :
  -2000000000≤i.a∧i.a≤2000000000∧(i.op≠14→i.name=ByteArray.empty)∧i.b=0∧i.c=0:=by
 have hf:bQ6 i=false∧aV9 w c m i=some true:=by
  unfold aO1 at h
  cases hn:aV9 w c m i with
  |none=>rw [hn] at h; cases h
  |some b =>
   rw [hn] at h
   cases b with
   |false=>simp at h
   |true =>
    cases hf:bQ6 i with
    |true=>simp [hf] at h
    |false=>exact ⟨rfl,rfl⟩
 obtain ⟨h1,h2⟩:=hf
 have hn:(i.op≠14→i.name=ByteArray.empty)∧i.b=0∧i.c=0:=by
  unfold bQ6 at h1
  by_cases h14:i.op=14
  ·simp only [h14,decide_true,Bool.not_true,Bool.false_and,Bool.true_and,Bool.or_false,Bool.or_eq_false_iff,Bool.not_eq_eq_eq_not,Bool.not_false,decide_eq_true_eq] at h1
   exact ⟨fun h=>absurd h14 h,h1.1.2,h1.2⟩
  ·simp only [h14,decide_false,Bool.not_false,Bool.false_and,Bool.true_and,Bool.false_or,Bool.or_eq_false_iff,Bool.not_eq_eq_eq_not,decide_eq_true_eq] at h1
   exact ⟨fun _=>h1.1.1,h1.1.2,h1.2⟩
 refine ⟨?_,?_,hn.1,hn.2.1,hn.2.2⟩ <;>
 ·unfold aV9 at h2
  (repeat' split at h2)<;>simp at h2<;>omega
def V5 (s:Int) (y:Me) (f:Int) (i:Ins):Ins :=
 if i.op=1 then ⟨3,s,0,0,ByteArray.empty⟩ else if i.op=2 then ⟨3,s+1+i.a,0,0,ByteArray.empty⟩ else if i.op=3∨i.op=11 then ⟨i.op,s+1+y.args+i.a,0,0,ByteArray.empty⟩
 else if i.op=4 then ⟨19,s,i.a,0,ByteArray.empty⟩ else if i.op=12 then ⟨20,s,i.a,0,ByteArray.empty⟩ else if i.op=15∨i.op=16 then ⟨i.op,f+i.a,0,0,ByteArray.empty⟩
 else if i.op=17 then ⟨15,f+y.code.length,0,0,ByteArray.empty⟩ else ⟨i.op,i.a,0,0,ByteArray.empty⟩
def aZ0 (s:Int):Nat→List Ins
 |0=>[]
 |v+1=>⟨11,s+v,0,0,ByteArray.empty⟩::aZ0 s v
def aP8 (b:Int):Nat→Nat→List Ins
 |0,_=>[]
 |n+1,k=>⟨6,0,0,0,ByteArray.empty⟩::⟨11,b+k,0,0,ByteArray.empty⟩::aP8 b n (k+1)
theorem aB4 (s:Int):∀n,(aZ0 s n).length=n
 |0=>rfl
 |n+1=>by simp [aZ0,aB4 s n]
theorem aE7 (b:Int):∀n k,(aP8 b n k).length=2*n
 |0,_=>rfl
 |n+1,k=>by simp [aP8,aE7 b n (k+1)]; omega
def hl (y:Me):Nat:=3+y.args.toNat+2*y.temps.toNat
def aC8 (y:Me) (s c p:Int) (base:Nat):List Ins :=
 ⟨18,c,y.args,p,ByteArray.empty⟩::⟨21,0,0,0,ByteArray.empty⟩::(aZ0 s (y.args.toNat+1)++aP8 (s+1+y.args) y.temps.toNat 0++y.code.map (V5 s y ((base+hl y:Nat):Int)))
theorem aC2 (y:Me) (s c p:Int) (base:Nat):(aC8 y s c p base).length=M7 y:=by
 simp only [aC8,List.length_cons,List.length_append,aB4,aE7,List.length_map,M7]; omega
structure cI4 (y:Me):Prop extends Leafy y where
 num:∀i∈y.code,-2000000000≤i.a∧i.a≤2000000000∧(i.op≠14→i.name=ByteArray.empty)∧i.b=0∧i.c=0
theorem b86 (N:Nat) (x0:F4) (w:Wd) (m:Me) (t:Int) (at_ fix:List Int) (hx:0≤x0.temps∧x0.temps≤1000):∀(n:Nat) (v:Nat) (out:List Ins),v < n→v≤100→out.length+v≤900000 →
  O4 N x0 n w m out t at_ fix ((v:Int) - 1)=some (w,m,out++aZ0 x0.temps v,t,at_,fix)
 |0,v,out,h,_,_=>by omega
 |n+1,0,out,_,_,_=>by
  rw [O4]
  have hq:¬(0:Int)≤((0:Nat):Int) - 1:=by omega
  simp only [hq,decide_false,cond_false,aZ0,List.append_nil]
 |n+1,v+1,out,h,hv,ho=>by
  rw [O4]
  have h0:(0:Int)≤(((v+1:Nat):Int) - 1):=by omega
  have w1:wr ((((v+1:Nat):Int) - 1) - 1)=(v:Int) - 1:=by rw [D8 (by unfold D6; omega)]; omega
  have w2:wr (x0.temps+(((v+1:Nat):Int) - 1))=x0.temps+(v:Int):=by rw [D8 (by unfold D6; omega)]; omega
  simp only [h0,decide_true,cond_true,w2,put_eq N w m out t at_ fix _ _ _ _ (show out.length≤1000000 by omega),Option.bind_some,w1]
  rw [b86 N x0 w m t at_ fix hx n v _ (by omega) (by omega) (by simp; omega)]
  simp [aZ0]
theorem b77 (N:Nat) (x0:F4) (y:Me) (hy:Leafy y) (w:Wd) (m:Me) (t:Int) (at_ fix:List Int) (hx:0≤x0.temps∧x0.temps≤1000):∀(n:Nat) (k:Nat) (out:List Ins),n+k≤100→out.length+2*n≤900000 →
  O3 N x0 y n k w m out t at_ fix=some (w,m,out++aP8 (x0.temps+1+y.args) n k,t,at_,fix)
 |0,k,out,_,_=>by simp [O3,aP8]
 |n+1,k,out,hn,ho=>by
  rw [O3]
  have ha:=hy.args
  have w2:wr (wr (wr (x0.temps+1)+y.args)+(k:Int))=x0.temps+1+y.args+k:=by
   rw [D8 (show D6 (x0.temps+1) by unfold D6; omega),D8 (show D6 (x0.temps+1+y.args) by unfold D6; omega),D8 (by unfold D6; omega)]
  simp only [w2,put_eq N w m out t at_ fix _ _ _ _ (show out.length≤1000000 by omega),Option.bind_some]
  rw [put_eq N w m _ t at_ fix _ _ _ _ (by simp; omega)]
  simp only [Option.bind_some]
  rw [b77 N x0 y hy w m t at_ fix hx n (k+1) _ (by omega) (by simp; omega)]
  simp [aP8]
theorem b82 (N:Nat) (x0:F4) (y:Me) (hy:cI4 y) (V:List Ins) (hV:V.length≤100000) (w:Wd) (m:Me) (t:Int) (at_ fix:List Int) (hx:0≤x0.temps∧x0.temps≤1000):∀(r:List Ins) (k:Nat) (out:List Ins),(∀i∈r,i∈y.code)→out.length+r.length≤900000 →
  M4 N x0 y V r k w m out t at_ fix=some (w,m,out++r.map (V5 x0.temps y (V.length:Int)),t,at_,fix)
 |[],k,out,_,_=>by simp [M4]
 |x::r,k,out,hr,ho=>by
  simp only [List.length_cons] at ho
  have hxm:=hr x (by simp)
  obtain ⟨b1,b2,b3,b4,b5⟩:=hy.num x hxm
  have ha:=hy.args
  have hc:=hy.len
  have go:=fun v:Ins=>b82 N x0 y hy V hV w m t at_ fix hx r (k+1) (out++[v]) (fun i hi=>hr i (by simp [hi])) (by simp; omega)
  have pe:=fun op a b c=>put_eq N w m out t at_ fix op a b c (show out.length≤1000000 by omega)
  have w1:wr (x0.temps+1)=x0.temps+1:=D8 (by unfold D6; omega)
  have w2:wr (x0.temps+1+x.a)=x0.temps+1+x.a:=D8 (by unfold D6; omega)
  have w3:wr (x0.temps+1+y.args)=x0.temps+1+y.args:=D8 (by unfold D6; omega)
  have w4:wr (x0.temps+1+y.args+x.a)=x0.temps+1+y.args+x.a:=D8 (by unfold D6; omega)
  have w5:wr ((V.length:Int)+x.a)=V.length+x.a:=D8 (by unfold D6; omega)
  have w6:wr ((V.length:Int)+(y.code.length:Int))=V.length+y.code.length:=D8 (by unfold D6; omega)
  rw [M4]
  simp only [w1,w2,w3,w4,w5,w6,pe,Option.bind_some]
  have fin:∀v:Ins,V5 x0.temps y (V.length:Int) x=v→M4 N x0 y V r (k+1) w m (out++[v]) t at_ fix=some (w,m,out++(x::r).map (V5 x0.temps y (V.length:Int)),t,at_,fix):=by
   intro v hv
   rw [go v,List.map_cons,hv]
   simp
  by_cases h1:x.op=1
  ·simp only [h1,decide_true,cond_true,Option.bind_some]; exact fin _ (by simp [V5,h1])
  by_cases h2:x.op=2
  ·simp only [h2,decide_true,cond_true,Option.bind_some]; exact fin _ (by simp [V5,h2])
  by_cases h3:x.op=3
  ·simp only [h3,decide_true,cond_true,Option.bind_some]; exact fin _ (by simp [V5,h3])
  by_cases h11:x.op=11
  ·simp only [h11,decide_true]; exact fin _ (by simp [V5,h11])
  by_cases h4:x.op=4
  ·simp only [h4,decide_true,cond_true,Option.bind_some]; exact fin _ (by simp [V5,h4])
  by_cases h12:x.op=12
  ·simp only [h12,decide_true,cond_true,Option.bind_some]; exact fin _ (by simp [V5,h12])
  by_cases h15:x.op=15
  ·simp only [h15,decide_true,cond_true,Option.bind_some]; exact fin _ (by simp [V5,h15])
  by_cases h16:x.op=16
  ·simp only [h16,decide_true]; exact fin _ (by simp [V5,h16])
  by_cases h17:x.op=17
  ·simp only [h17,decide_true,cond_true,Option.bind_some]; exact fin _ (by simp [V5,h17])
  simp only [h1,h2,h3,h11,h4,h12,h15,h16,h17,decide_false,cond_false,Option.bind_some]; exact fin _ (by simp [V5,h1,h2,h3,h11,h4,h12,h15,h16,h17])
theorem cT8 (N:Nat) (hN:1000≤N) (w:Wd) (m:Me) (out:List Ins) (t:Int) (at_ fix:List Int) (k:Int) (p:Int) (i:Ins) (y:Me) (hy:cI4 y) (hi:y.args=i.a) (ht:0≤t∧t≤40) (ho:out.length≤1000) :
  aF1 N (⟨w,m,out,t,at_,fix⟩:F4) k p i y=some ⟨w,m,out++aC8 y t k p out.length,t+(1+y.args+y.temps),at_,fix⟩:=by
 have h1:=hy.args
 have h2:=hy.temps
 have h3:=hy.len
 unfold aF1
 have e1:wr (1+y.args)=1+y.args:=D8 (by unfold D6; omega)
 have e2:wr (1+y.args+y.temps)=1+y.args+y.temps:=D8 (by unfold D6; omega)
 have e3:wr (t+(1+y.args+y.temps))=t+(1+y.args+y.temps):=D8 (by unfold D6; omega)
 simp only [e1,e2,e3]
 rw [put_eq N w m out _ at_ fix _ _ _ _ (by omega)]
 simp only [Option.bind_some]
 rw [put_eq N w m _ _ at_ fix _ _ _ _ (by simp; omega)]
 simp only [Option.bind_some]
 have a1:=b86 N ⟨w,m,out,t,at_,fix⟩ w m (t+(1+y.args+y.temps)) at_ fix (by show 0≤t∧t≤1000; omega) N (y.args.toNat+1) ((out++[⟨18,k,i.a,p,ByteArray.empty⟩])++[⟨21,0,0,0,ByteArray.empty⟩]) (by omega) (by omega) (by simp; omega)
 have e4:(((y.args.toNat+1:Nat):Int) - 1)=y.args:=by omega
 rw [e4] at a1
 rw [a1]
 simp only [Option.bind_some]
 have e5:(y.temps - ((0:Nat):Int)).toNat=y.temps.toNat:=by omega
 rw [e5,b77 N ⟨w,m,out,t,at_,fix⟩ y hy.toLeafy w m (t+(1+y.args+y.temps)) at_ fix (by show 0≤t∧t≤1000; omega) y.temps.toNat 0 _ (by omega) (by simp [aB4]; omega)]
 simp only [Option.bind_some]
 rw [b82 N ⟨w,m,out,t,at_,fix⟩ y hy _ (by simp [aB4,aE7]; omega) w m (t+(1+y.args+y.temps)) at_ fix (by show 0≤t∧t≤1000; omega) y.code 0 _ (fun j hj=>hj) (by simp [aB4,aE7]; omega)]
 simp only [Option.bind_some]
 have hlen:(((((out++[(⟨18,k,i.a,p,ByteArray.empty⟩:Ins)])++[(⟨21,0,0,0,ByteArray.empty⟩:Ins)])++aZ0 t (y.args.toNat+1))++aP8 (t+1+y.args) y.temps.toNat 0).length:Nat)=out.length+hl y:=by
  simp only [List.length_append,List.length_cons,List.length_nil,aB4,aE7,hl]; omega
 rw [hlen,aC8,←hi]
 simp
end Go.Proofs.Ytkecefjmcimemaa
namespace Go.Proofs.Ytkecefjmcimemaa
open Go.RowKit
set_option linter.unusedVariables false
inductive L8 where
 |pl (i:Ins)
 |pc (y:Me) (s c p:Int)
def L8.out (b:Nat):L8→List Ins
 |.pl i=>[i]
 |.pc y s c p=>aC8 y s c p b
def L8.len : L8→Nat
 |.pl _=>1
 |.pc y _ _ _=>M7 y
def L8.isPc : L8→Bool
 |.pl _=>false
 |.pc _ _ _ _=>true
def aN8 (i:Ins):Bool:=decide (i.op=15) || decide (i.op=16)
def aS2 : List L8→Nat→List Ins
 |[],_=>[]
 |x::l,b=>x.out b++aS2 l (b+x.len)
def P8 : List L8→Nat→List Int
 |[],_=>[]
 |x::l,b=>(b:Int)::P8 l (b+x.len)
def aG1 : List L8→Nat→List Int
 |[],_=>[]
 |.pl i::l,b=>if aN8 i=true then (b:Int)::aG1 l (b+1) else aG1 l (b+1)
 |.pc y s c p::l,b=>aG1 l (b+M7 y)
def b61 (i:Ins) (a:Int):Ins:=⟨i.op,a,i.b,i.c,i.name⟩
def aV2 (bs:List Int) (i:Ins):Ins:=if aN8 i=true then b61 i ((bs[i.a.toNat]?).getD 0) else i
def aG2 (bs:List Int):List L8→Nat→List Ins
 |[],_=>[]
 |.pl i::l,b=>aV2 bs i::aG2 bs l (b+1)
 |.pc y s c p::l,b=>aC8 y s c p b++aG2 bs l (b+M7 y)
def bK5 (w:Wd) (c:Int) (name:ByteArray):Option Me:=if (y9 w name c).2 < 0 then none else (p8 w.classes (y9 w name c).1).bind fun x=>p8 x.methods (y9 w name c).2
def aE8 (w:Wd) (sites:List Int) (L k:Nat) (i:Ins) (size:Nat) (t:Int):Option (Me×Int) :=
 if i.op=14 then match sites[k]? with
  |some c=>if 0≤c then match bK5 w c i.name with
   |some y=>if aP1 y=true∧y.args=i.a∧size+M7 y+L≤240+k∧t+1+y.args+y.temps≤40 then some (y,c) else none
   |none=>none
   else none
  |none=>none
 else none
def Q0 (k:Nat) (i:Ins):Ins:=if i.op=14 then ⟨i.op,i.a,i.b,k,i.name⟩ else i
def I9 (w:Wd) (sites:List Int) (L:Nat):List Ins→Nat→Nat→Int→List L8×Int
 |[],_,_,t=>([],t)
 |i::r,k,size,t=>match aE8 w sites L k i size t with
  |some (y,c)=>let q:=I9 w sites L r (k+1) (size+M7 y) (t+(1+y.args+y.temps)); (.pc y t c k::q.1,q.2)
  |none=>let q:=I9 w sites L r (k+1) (size+1) t; (.pl (Q0 k i)::q.1,q.2)
def aH3 (w:Wd):Prop:=∀(k:Nat) (x:Cl),w.classes[k]?=some x→∀y∈x.methods,cI4 y
theorem bQ4 {w:Wd} {c:Int} {name:ByteArray} {y:Me} (h:bK5 w c name=some y):∃(k:Nat) (x:Cl),w.classes[k]?=some x∧y∈x.methods:=by
 unfold bK5 at h
 split at h
 ·cases h
 ·cases hx:p8 w.classes (y9 w name c).1 with
  |none=>rw [hx] at h; cases h
  |some x =>
   rw [hx] at h
   exact ⟨_,x,(u6 hx).2,List.mem_of_getElem? (u6 h).2⟩
theorem cV9 {y:Me} (h:aP1 y=true):∀i∈y.code,i.op≠14:=by
 unfold aP1 at h
 simp only [Bool.and_eq_true,Bool.not_eq_true',List.any_eq_false] at h
 intro i hi e
 exact h.2 i hi (by simp [sends,e])
theorem aT8 {w:Wd} {sites:List Int} {L k:Nat} {i:Ins} {size:Nat} {t:Int} {y:Me} {c:Int} (h:aE8 w sites L k i size t=some (y,c)) :
  i.op=14∧sites[k]?=some c∧0≤c∧bK5 w c i.name=some y∧aP1 y=true∧y.args=i.a∧size+M7 y+L≤240+k∧t+1+y.args+y.temps≤40:=by
 unfold aE8 at h
 split at h
 ·rename_i h14
  split at h
  ·rename_i c' hc
   split at h
   ·rename_i h0
    split at h
    ·rename_i y' hy
     split at h
     ·rename_i hh
      cases h
      exact ⟨h14,hc,h0,hy,hh⟩
     ·cases h
    ·cases h
   ·cases h
  ·cases h
 ·cases h
theorem bW1 (N:Nat) (hN:1048578≤N) (W:Wd) (hw:aW6 W) (hs:Q6 W) (m:Me) (out:List Ins) (t:Int) (at_ fix:List Int) (c:Int) (name:ByteArray) :
  aC0 N (⟨W,m,out,t,at_,fix⟩:F4) c name=some (bK5 W c name,⟨W,m,out,t,at_,fix⟩):=by
 unfold aC0 bK5
 rw [aW9 N W c name hN hw hs]
 simp only [Option.bind_some]
 by_cases h:(y9 W name c).2 < 0
 ·simp only [h,decide_true,cond_true,if_true]
 ·obtain ⟨x,y,hx,hy,_⟩:=bA6 (w:=W) (s:=name) (c:=c) (by omega)
  simp only [h,decide_false,cond_false,if_false,hx,hy,Option.bind_some]
theorem bI8 (N:Nat) (hN:4194304≤N) (W:Wd) (hw:aW6 W) (hs:Q6 W) (hL:aH3 W) (sites:List Int) (M:Me) (hM:M.code.length≤60):∀(r:List Ins) (k:Nat) (out:List Ins) (t:Int) (at_ fix:List Int) (b:Bool),
  r=M.code.drop k→k≤M.code.length→out.length+M.code.length≤240+k→0≤t∧t≤40→at_.length=k→fix.length≤k →
  U1 N sites M r k W M out t at_ fix b=some (W,M,out++aS2 (I9 W sites M.code.length r k out.length t).1 out.length,(I9 W sites M.code.length r k out.length t).2,
   at_++P8 (I9 W sites M.code.length r k out.length t).1 out.length,fix++aG1 (I9 W sites M.code.length r k out.length t).1 out.length,b || (I9 W sites M.code.length r k out.length t).1.any L8.isPc)
 |[],k,out,t,at_,fix,b,_,_,_,_,_,_=>by simp [U1,I9,aS2,P8,aG1]
 |x::r,k,out,t,at_,fix,b,hd,hk,ho,ht,hat,hfix=>by
  obtain ⟨hx,hr,hlt⟩:=F3 hd
  have hk:k < M.code.length:=by have:=of_decide_eq_true hlt; omega
  have ga:Nat.ble ((at_.length+[(out.length:Int)].length)*8) 140737488355328=true:=I1 (by simp; omega)
  have gf:Nat.ble ((fix.length+[(out.length:Int)].length)*8) 140737488355328=true:=I1 (by simp; omega)
  have go:∀v:Ins,Nat.ble ((out.length+[v].length)*48) 140737488355328=true:=fun v=>I1 (by simp; omega)
  have plain:aE8 W sites M.code.length k x out.length t=none→((((((bif decide (x.op=(15:Int)) then some (true) else some (decide (x.op=(16:Int)))):Option Bool).bind fun v120=>(((bif v120 then (bif Nat.ble ((fix.length+[(out.length:Int)].length)*8) 140737488355328 then some ((fix++[(out.length:Int)])) else none) else some (fix)):Option (List Int)).bind fun v124=>(((bif decide (x.op=(14:Int)) then some ((⟨x.op,x.a,x.b,(k:Int),x.name⟩:Ins)) else some (x)):Option Ins).bind fun v130=>(bif Nat.ble ((out.length+[v130].length)*48) 140737488355328 then some ((W,M,(out++[v130]),t,(at_++[(out.length:Int)]),v124,b)) else none))))):Option (Wd×Me×(List Ins)×Int×(List Int)×(List Int)×Bool)).bind fun (v47,v48,v49,v50,v51,v52,v53)=>U1 N sites M r (k+1) v47 v48 v49 v50 v51 v52 v53) =
    some (W,M,out++aS2 (I9 W sites M.code.length (x::r) k out.length t).1 out.length,(I9 W sites M.code.length (x::r) k out.length t).2,
   at_++P8 (I9 W sites M.code.length (x::r) k out.length t).1 out.length,fix++aG1 (I9 W sites M.code.length (x::r) k out.length t).1 out.length,b || (I9 W sites M.code.length (x::r) k out.length t).1.any L8.isPc):=by
   intro hc
   have ih:=fun (v:Ins) (fx:List Int) (hfx:fx.length≤k+1)=>bI8 N hN W hw hs hL sites M hM r (k+1) (out++[v]) t (at_++[(out.length:Int)]) fx b hr (by omega) (by simp; omega) ht (by simp [hat]) hfx
   have hlen:∀v:Ins,(out++[v]).length=out.length+1:=fun v=>by simp
   simp only [hlen] at ih
   rw [I9,hc]
   simp only [aS2,P8,aG1,L8.out,L8.len,List.any_cons,L8.isPc,Bool.false_or]
   by_cases h15:x.op=15
   ·have hj:aN8 (Q0 k x)=true:=by simp [aN8,Q0,h15]
    have hp:Q0 k x=x:=by simp [Q0,h15]
    rw [hp] at hj
    have h14:¬x.op=14:=by omega
    simp only [h15,gf,go,decide_true,decide_false,cond_true,cond_false,Option.bind_some,hj,if_true,hp,show ((15:Int)=14)=False by decide]
    rw [ih x _ (by simp; omega)]
    simp
   by_cases h16:x.op=16
   ·have hj:aN8 (Q0 k x)=true:=by simp [aN8,Q0,h16]
    have hp:Q0 k x=x:=by simp [Q0,h16]
    rw [hp] at hj
    have h14:¬x.op=14:=by omega
    simp only [h16,gf,go,decide_true,decide_false,cond_true,cond_false,Option.bind_some,hj,if_true,hp,show ((16:Int)=14)=False by decide,show ((16:Int)=15)=False by decide]
    rw [ih x _ (by simp; omega)]
    simp
   have hj:aN8 (Q0 k x)=false:=by
    by_cases h14:x.op=14<;>simp [aN8,Q0,h14,h15,h16]
   by_cases h14:x.op=14
   ·have hp:Q0 k x=⟨x.op,x.a,x.b,k,x.name⟩:=by simp [Q0,h14]
    rw [hp] at hj
    simp only [h14,go,decide_true,decide_false,cond_true,cond_false,Option.bind_some,hp,show ((14:Int)=16)=False by decide,show ((14:Int)=15)=False by decide]
    rw [ih _ _ (by omega)]
    rw [h14] at hj
    simp [hj]
   ·have hp:Q0 k x=x:=by simp [Q0,h14]
    rw [hp] at hj
    simp only [h15,h16,h14,go,decide_false,cond_true,cond_false,Option.bind_some,hp]
    rw [ih _ _ (by omega)]
    simp [hj]
  rw [U1]
  rw [ga,cond_true]
  by_cases h14:x.op=14
  ·by_cases hks:k < sites.length
   ·obtain ⟨c,hc⟩:∃c,sites[k]?=some c:=⟨_,List.getElem?_eq_getElem hks⟩
    have hks':(k:Int) < (sites.length:Int):=by omega
    have hnc:p8 sites (k:Int)=some c:=by rw [G6,hc]
    by_cases h0:0≤c
    ·cases hm:bK5 W c x.name with
     |none =>
      have hcn:aE8 W sites M.code.length k x out.length t=none:=by simp only [aE8,h14,if_true,hc,h0,hm]
      have:=plain hcn
      simp only [hks',h14,hnc,h0,decide_true,cond_true,Option.bind_some,bW1 N (by omega) W hw hs,hm]
      simp only [h14,decide_true] at this
      exact this
     |some y =>
      obtain ⟨kk,xx,hkx,hyx⟩:=bQ4 hm
      have hy:=hL kk xx hkx y hyx
      have ya:=hy.args
      have yt:=hy.temps
      have yc:=hy.len
      have hsz:=size_eq N y hy.toLeafy
      have hsb:M7 y≤1000:=by unfold M7; omega
      have w1:wr ((out.length:Int)+((M7 y:Nat):Int))=out.length+M7 y:=D8 (by unfold D6; omega)
      have w2:wr ((out.length:Int)+((M7 y:Nat):Int)+(M.code.length:Int))=out.length+M7 y+M.code.length:=D8 (by unfold D6; omega)
      have w3:wr ((out.length:Int)+((M7 y:Nat):Int)+(M.code.length:Int) - (k:Int))=out.length+M7 y+M.code.length - k:=D8 (by unfold D6; omega)
      have w4:wr (t+1)=t+1:=D8 (by unfold D6; omega)
      have w5:wr (t+1+y.args)=t+1+y.args:=D8 (by unfold D6; omega)
      have w6:wr (t+1+y.args+y.temps)=t+1+y.args+y.temps:=D8 (by unfold D6; omega)
      by_cases hfit:aP1 y=true∧y.args=x.a∧out.length+M7 y+M.code.length≤240+k∧t+1+y.args+y.temps≤40
      ·have hcs:aE8 W sites M.code.length k x out.length t=some (y,c):=by simp only [aE8,h14,if_true,hc,h0,hm]; rw [if_pos hfit]
       obtain ⟨f1,f2,f3,f4⟩:=hfit
       have f3':((out.length:Int)+M7 y+M.code.length - k)≤240:=by omega
       simp only [hks',h14,hnc,h0,decide_true,cond_true,Option.bind_some,bW1 N (by omega) W hw hs,hm,bA7,f1,f2,hsz,w1,w2,w3,w4,f3']
       rw [←f2]
       simp only [w5,w6,f4,decide_true]
       rw [cT8 N (by omega) W M out t _ fix c (k:Int) x y hy f2 ht (by omega)]
       simp only [Option.bind_some,cond_true]
       rw [bI8 N hN W hw hs hL sites M hM r (k+1) _ _ _ _ true hr (by omega) (by simp [aC2]; omega) (by omega) (by simp [hat]) (by omega)]
       rw [I9,hcs]
       simp [aS2,P8,aG1,L8.out,L8.len,L8.isPc,aC2]
      ·have hcn:aE8 W sites M.code.length k x out.length t=none:=by simp only [aE8,h14,if_true,hc,h0,hm]; rw [if_neg hfit]
       have:=plain hcn
       have hno:(((bif aP1 y then (bif decide (y.args=x.a) then ((aR5 N y).bind fun r96=>(bif decide ((wr ((wr ((wr ((out.length:Int)+r96))+(M.code.length:Int))) - (k:Int)))≤(240:Int)) then some (decide ((wr ((wr ((wr (t+(1:Int)))+y.args))+y.temps))≤(40:Int))) else some (false))) else some (false)) else some (false))):Option Bool)=some false:=by
        rw [hsz]
        simp only [Option.bind_some,w1,w2,w3,w4,w5,w6]
        by_cases f1:aP1 y=true
        ·by_cases f2:y.args=x.a
         ·by_cases f3:out.length+M7 y+M.code.length≤240+k
          ·have f4:¬t+1+y.args+y.temps≤40:=fun f4=>hfit ⟨f1,f2,f3,f4⟩
           have f3':((out.length:Int)+M7 y+M.code.length - k)≤240:=by omega
           simp only [f1,decide_eq_true f2,decide_eq_true f3',decide_eq_false f4,cond_true]
          ·have f3':¬((out.length:Int)+M7 y+M.code.length - k)≤240:=by omega
           simp only [f1,decide_eq_true f2,decide_eq_false f3',cond_true,cond_false]
         ·simp only [f1,decide_eq_false f2,cond_true,cond_false]
        ·simp only [Bool.not_eq_true] at f1
         simp only [f1,cond_false]
       simp only [hks',h14,hnc,h0,decide_true,cond_true,Option.bind_some,bW1 N (by omega) W hw hs,hm,bA7,hno,cond_false]
       simp only [h14,decide_true] at this
       exact this
    ·have hcn:aE8 W sites M.code.length k x out.length t=none:=by simp only [aE8,h14,if_true,hc,h0,if_false]
     have:=plain hcn
     simp only [hks',h14,hnc,h0,decide_true,decide_false,cond_true,cond_false,Option.bind_some]
     simp only [h14,decide_true] at this
     exact this
   ·have hc:sites[k]?=none:=List.getElem?_eq_none (by omega)
    have hks':¬(k:Int) < (sites.length:Int):=by omega
    have hcn:aE8 W sites M.code.length k x out.length t=none:=by simp only [aE8,h14,if_true,hc]
    have:=plain hcn
    simp only [hks',h14,decide_true,decide_false,cond_true,cond_false,Option.bind_some]
    simp only [h14,decide_true] at this
    exact this
  ·have hcn:aE8 W sites M.code.length k x out.length t=none:=by simp only [aE8,h14,if_false]
   have:=plain hcn
   simp only [h14,decide_false,cond_false,Option.bind_some]
   simp only [h14,decide_false] at this
   exact this
theorem aZ4 (N:Nat) (bs fx:List Int):∀(l:List L8) (k:Nat) (pre:List Ins),fx.drop k=aG1 l pre.length→(∀i,L8.pl i∈l→aN8 i=true→∃a,p8 bs i.a=some a) →
  S9 N bs fx (aG1 l pre.length) k (pre++aS2 l pre.length)=some (pre++aG2 bs l pre.length)
 |[],k,pre,_,_=>by simp [aG1,S9,aS2,aG2]
 |.pl i::l,k,pre,hd,hj=>by
  have hj':∀i,L8.pl i∈l→aN8 i=true→∃a,p8 bs i.a=some a:=fun i hi=>hj i (by simp [hi])
  have hlen:∀v:Ins,(pre++[v]).length=pre.length+1:=fun v=>by simp
  have e1:∀v:Ins,pre++(v::aS2 l (pre.length+1))=(pre++[v])++aS2 l (pre.length+1):=fun v=>by simp
  by_cases hb:aN8 i=true
  ·obtain ⟨a,ha⟩:=hj i (by simp) hb
   simp only [aG1,hb,if_true] at hd ⊢
   obtain ⟨h1,h2,_⟩:=F3 hd.symm
   have hget:p8 (pre++(i::aS2 l (pre.length+1))) (pre.length:Int)=some i:=by rw [G6]; simp
   have ih:=aZ4 N bs fx l (k+1) (pre++[b61 i a]) (by rw [hlen]; exact h2.symm) hj'
   simp only [hlen] at ih
   rw [S9]
   simp only [aS2,L8.out,L8.len,List.singleton_append,G6,h1,Option.bind_some]
   rw [←G6,hget]
   simp only [Option.bind_some,ha,Int.toNat_natCast]
   rw [List.set_append_right _ _ (Nat.le_refl _),Nat.sub_self,List.set_cons_zero]
   have e2:=e1 (b61 i a)
   unfold b61 at e2 ih
   rw [e2,ih]
   simp only [aG2,aV2,hb,if_true,b61]
   rw [Z5 (u6 ha).1] at ha
   rw [ha]
   simp
  ·have hb':aN8 i=false:=by cases h:aN8 i<;>simp_all
   have hf:aG1 (L8.pl i::l) pre.length=aG1 l (pre.length+1):=by simp [aG1,hb']
   rw [hf] at hd ⊢
   have ih:=aZ4 N bs fx l k (pre++[i]) (by rw [hlen]; exact hd) hj'
   simp only [hlen] at ih
   show S9 N bs fx (aG1 l (pre.length+1)) k (pre++(i::aS2 l (pre.length+1)))=some (pre++(aV2 bs i::aG2 bs l (pre.length+1)))
   rw [e1,ih]
   simp [aV2,hb']
 |.pc y s c p::l,k,pre,hd,hj=>by
  have hj':∀i,L8.pl i∈l→aN8 i=true→∃a,p8 bs i.a=some a:=fun i hi=>hj i (by simp [hi])
  have hlen:(pre++aC8 y s c p pre.length).length=pre.length+M7 y:=by simp [aC2]
  have hf:aG1 (L8.pc y s c p::l) pre.length=aG1 l (pre.length+M7 y):=by simp [aG1]
  rw [hf] at hd ⊢
  have ih:=aZ4 N bs fx l k (pre++aC8 y s c p pre.length) (by rw [hlen]; exact hd) hj'
  simp only [hlen] at ih
  simp only [aS2,L8.out,L8.len,aG2,←List.append_assoc,ih]
theorem bP5 (w:Wd) (sites:List Int) (L:Nat):∀(r:List Ins) (k size:Nat) (t:Int),(I9 w sites L r k size t).1.length=r.length
 |[],_,_,_=>rfl
 |i::r,k,size,t=>by
  rw [I9]
  split<;>simp [bP5 w sites L r]
theorem bX1 : ∀(l:List L8) (b:Nat),(P8 l b).length=l.length
 |[],_=>rfl
 |x::l,b=>by simp [P8,bX1 l]
theorem bM5 (w:Wd) (sites:List Int) (L:Nat):∀(r:List Ins) (k size:Nat) (t:Int) (i:Ins),L8.pl i∈(I9 w sites L r k size t).1→aN8 i=true→i∈r
 |[],_,_,_,i,h,_=>by cases h
 |x::r,k,size,t,i,h,hj=>by
  rw [I9] at h
  split at h
  ·simp only [List.mem_cons,reduceCtorEq,false_or] at h
   exact List.mem_cons_of_mem _ (bM5 w sites L r _ _ _ i h hj)
  ·simp only [List.mem_cons,L8.pl.injEq] at h
   rcases h with h|h
   ·have hp:Q0 k x=x:=by
     rw [h] at hj
     unfold Q0 at hj ⊢
     split
     ·rename_i h14
      rw [if_pos h14] at hj
      simp [aN8,h14] at hj
     ·rfl
    rw [h,hp]
    simp
   ·exact List.mem_cons_of_mem _ (bM5 w sites L r _ _ _ i h hj)
end Go.Proofs.Ytkecefjmcimemaa
namespace Go.Proofs.Ytkecefjmcimemaa
open Go.RowKit
set_option linter.unusedVariables false
theorem cO3 {N:Nat} {w:Wd} (h:aC1 N w):∀x∈w.classes,0≤x.slots∧x.slots≤6:=fun x hx=>by
 obtain ⟨j,hj⟩:=List.mem_iff_getElem?.1 hx
 have:=h.cls j x hj
 exact ⟨this.2.2.2.2.1,this.2.2.2.2.2⟩
theorem cO8 {N:Nat} {w:Wd} (hN:4194304≤N) (hs:Q6 w) (h:aC1 N w):aH3 w:=fun k x hx y hy=>by
 have mp:=c22 (by omega) hs.1 h hx hy
 have hsl:=bL6 (cO3 h) hs.1 (k:Int)
 have hcl:=h.many
 have ma:=mp.args
 have mt:=mp.temps
 have ml:=mp.len
 refine ⟨⟨ma,mt,ml,fun i hi=>cV0 N w _ y i (by omega) hs.1 (mp.num i hi),fun i hi hj=>cM6 N w _ y i (by omega) (mp.num i hi) hj⟩,fun i hi=>?_⟩
 have hn:=mp.num i hi
 rw [bD7 N w k y i (by omega) hs.1 (by omega) (by omega) (by omega) hsl (by omega)] at hn
 exact dI6 (Option.some.inj hn) hs.1 (by omega) (by omega) hsl.2 (by omega)
def b47 : List L8→Nat
 |[]=>0
 |x::l=>x.len+b47 l
theorem bQ1 (w:Wd) (sites:List Int) (L:Nat):∀(r:List Ins) (k size:Nat) (t:Int),r.length+k=L→size+r.length≤240→size+b47 (I9 w sites L r k size t).1≤240
 |[],k,size,t,_,h=>by simpa [I9,b47] using h
 |i::r,k,size,t,hk,h=>by
  simp only [List.length_cons] at hk h
  rw [I9]
  split
  ·rename_i y c hc
   have:=(aT8 hc).2.2.2.2.2.2.1
   have ih:=bQ1 w sites L r (k+1) (size+M7 y) (t+(1+y.args+y.temps)) (by omega) (by omega)
   simp only [b47,L8.len]
   omega
  ·have ih:=bQ1 w sites L r (k+1) (size+1) t (by omega) (by omega)
   simp only [b47,L8.len]
   omega
theorem bB3 (w:Wd) (hL:aH3 w) (sites:List Int) (L:Nat):∀(r:List Ins) (k size:Nat) (t:Int) (y:Me) (s c p:Int),L8.pc y s c p∈(I9 w sites L r k size t).1→cI4 y∧aP1 y=true
 |[],_,_,_,_,_,_,_,h=>by cases h
 |i::r,k,size,t,y,s,c,p,h=>by
  rw [I9] at h
  split at h
  ·rename_i y' c' hc
   rcases List.mem_cons.1 h with h|h
   ·cases h
    obtain ⟨_,_,_,hm,hlf,_⟩:=aT8 hc
    obtain ⟨kk,xx,h1,h2⟩:=bQ4 hm
    exact ⟨hL kk xx h1 y h2,hlf⟩
   ·exact bB3 w hL sites L r _ _ _ y s c p h
  ·rcases List.mem_cons.1 h with h|h
   ·cases h
   ·exact bB3 w hL sites L r _ _ _ y s c p h
def bB5 (w:Wd) (c k:Int) (sites:List Int):Fs×Bool :=
 if c < 0∨(w.classes.length:Int)≤c∨k < 0 then (⟨0,ByteArray.empty,0,0,[]⟩,false) else
 match w.classes[c.toNat]? with
 |none=>(⟨0,ByteArray.empty,0,0,[]⟩,false)
 |some x=>match x.methods[k.toNat]? with
  |none=>(⟨0,ByteArray.empty,0,0,[]⟩,false)
  |some m=>let q:=I9 w sites m.code.length m.code 0 0 m.temps
   if q.1.any L8.isPc=true then (⟨c,m.name,w.epoch,q.2,aG2 (P8 q.1 0) q.1 0⟩,true) else (⟨0,ByteArray.empty,0,0,[]⟩,false)
theorem cZ8 (N:Nat) (hN:4194304≤N) (w:Wd) (hs:Q6 w) (hp:aC1 N w) (c k:Int) (sites:List Int):aQ5 N w c k sites=some (bB5 w c k sites):=by
 have hL:=cO8 hN hs hp
 unfold aQ5 bB5
 by_cases c1:c < 0
 ·simp [c1]
 by_cases c2:(w.classes.length:Int)≤c
 ·simp [c1,c2]
 by_cases c3:k < 0
 ·simp [c1,c2,c3]
 obtain ⟨x,hx,hnx⟩:=P9 (l:=w.classes) (i:=c) (by omega) (by omega)
 by_cases c4:(x.methods.length:Int)≤k
 ·have:x.methods[k.toNat]?=none:=List.getElem?_eq_none (by omega)
  simp [c1,c2,c3,c4,hnx,hx,this]
 obtain ⟨m,hm,hnm⟩:=P9 (l:=x.methods) (i:=k) (by omega) (by omega)
 have hM:=hL _ x hx m (List.mem_of_getElem? hm)
 have hm60:=hM.len
 have hmt:=hM.temps
 have hml:∀i,L8.pl i∈(I9 w sites m.code.length m.code 0 0 m.temps).1→aN8 i=true→∃a,p8 (P8 (I9 w sites m.code.length m.code 0 0 m.temps).1 0) i.a=some a:=fun i hi hj=>by
  have him:=bM5 w sites m.code.length m.code 0 0 m.temps i hi hj
  have hr:=hM.jump i him (by simp only [aN8,Bool.or_eq_true,decide_eq_true_eq] at hj; exact hj)
  obtain ⟨a,ha,hna⟩:=P9 (l:=P8 (I9 w sites m.code.length m.code 0 0 m.temps).1 0) (i:=i.a) hr.1 (by rw [bX1,bP5]; exact hr.2)
  exact ⟨a,hna⟩
 have e1:=bI8 N hN w hp.rise hs hL sites m hm60 m.code 0 [] m.temps [] [] false rfl (by omega) (by simp; omega) (by omega) rfl (by simp)
 simp only [List.length_nil,List.nil_append,Bool.false_or] at e1
 simp only [c1,c2,c3,c4,hnx,hnm,decide_false,cond_false,Option.bind_some,e1,hx,hm,or_self,if_false]
 cases hb:(I9 w sites m.code.length m.code 0 0 m.temps).1.any L8.isPc with
 |false=>simp
 |true =>
  have e2:=aZ4 N (P8 (I9 w sites m.code.length m.code 0 0 m.temps).1 0) (aG1 (I9 w sites m.code.length m.code 0 0 m.temps).1 0) (I9 w sites m.code.length m.code 0 0 m.temps).1 0 [] rfl hml
  simp only [List.length_nil,List.nil_append] at e2
  simp only [Bool.not_true,cond_false,e2,Option.bind_some,if_true]
end Go.Proofs.Ytkecefjmcimemaa
namespace Go.Proofs.Ytkecefjmcimemaa
open Go.RowKit
set_option linter.unusedVariables false
def aM1 (N:Nat) (w:Wd) (t:List Tl) (c k:Int):List Int:=(aJ4 N w t c k).getD []
def bP9 (N:Nat) (w:Wd) (t:List Tl) (c k:Nat):List Fs:=if (bB5 w (c:Int) (k:Int) (aM1 N w t c k)).2=true then [(bB5 w (c:Int) (k:Int) (aM1 N w t c k)).1] else []
def all2 (N:Nat) (w:Wd) (t:List Tl) (c:Nat):List Me→Nat→List Fs
 |[],_=>[]
 |_::r,k=>bP9 N w t c k++all2 N w t c r (k+1)
def aT9 (N:Nat) (w:Wd) (t:List Tl):List Cl→Nat→List Fs
 |[],_=>[]
 |x::r,c=>all2 N w t c x.methods 0++aT9 N w t r (c+1)
theorem cY3 (N:Nat) (w:Wd) (t:List Tl) (c k:Nat):(bP9 N w t c k).length≤1:=by
 unfold bP9; split<;>simp
theorem cO0 (N:Nat) (w:Wd) (t:List Tl) (c:Nat):∀(r:List Me) (k:Nat),(all2 N w t c r k).length≤r.length
 |[],_=>Nat.le_refl _
 |x::r,k=>by
  have:=cY3 N w t c k
  have:=cO0 N w t c r (k+1)
  simp only [all2,List.length_append,List.length_cons]; omega
section
variable (N:Nat) (hN:4194304≤N) (w:Wd) (hs:Q6 w) (hp:aC1 N w) (t:List Tl)
include hN hs hp
theorem cZ2 (c k:Int):aJ4 N w t c k=some (aM1 N w t c k):=by
 obtain ⟨L,hL⟩:=b05 N w t c k (by omega) hp.rise hs
 rw [aM1,hL]
 rfl
theorem a99 (c:Nat):∀(r:List Me) (k:Nat) (acc:List Fs),acc.length+r.length≤1000000→aI4 N w t c r k acc=some (acc++all2 N w t c r k)
 |[],k,acc,_=>by simp [aI4,all2]
 |x::r,k,acc,h=>by
  simp only [List.length_cons] at h
  rw [aI4,cZ2 N hN w hs hp t]
  simp only [Option.bind_some,cZ8 N hN w hs hp]
  have g:∀v:Fs,Nat.ble ((acc.length+[v].length)*64) 140737488355328=true:=fun v=>I1 (by simp; omega)
  cases hq:(bB5 w (c:Int) (k:Int) (aM1 N w t c k)).2 with
  |true =>
   simp only [cond_true,g,Option.bind_some]
   rw [a99 c r (k+1) _ (by simp; omega)]
   simp [all2,bP9,hq]
  |false =>
   simp only [cond_false,Option.bind_some]
   rw [a99 c r (k+1) _ (by omega)]
   simp [all2,bP9,hq]
theorem bO8 : ∀(r:List Cl) (c:Nat) (acc:List Fs),(∀x∈r,x.methods.length≤8)→acc.length+8*r.length≤1000000→aI2 N w t r c acc=some (acc++aT9 N w t r c)
 |[],c,acc,_,_=>by simp [aI2,aT9]
 |x::r,c,acc,hm,h=>by
  simp only [List.length_cons] at h
  have h8:=hm x (by simp)
  have hl:=cO0 N w t c x.methods 0
  rw [aI2,a99 N hN w hs hp t c x.methods 0 acc (by omega)]
  simp only [Option.bind_some,bO8 r (c+1) (acc++all2 N w t c x.methods 0) (fun y hy=>hm y (by simp [hy])) (by simp; omega),aT9,List.append_assoc]
theorem cP8 : bA0 N w t=some (aT9 N w t w.classes 0):=by
 unfold bA0
 have hm:=hp.many
 rw [bO8 N hN w hs hp t w.classes 0 [] (fun x hx=>by
  obtain ⟨i,hi⟩:=List.mem_iff_getElem?.1 hx
  exact (hp.meth i x hi).2.1) (by simp; omega)]
 simp
end
theorem a13 (N:Nat):∀(l:List Ln) (k:Nat),∃o,aB1 N l k=some o∧∀r,o=.ret r→r=false
 |[],k=>⟨.next (),rfl,fun r h=>by cases h⟩
 |x::l,k=>by
  rw [aB1]
  by_cases h1:x.found < 0
  ·exact ⟨.ret false,by simp [h1],fun r h=>by cases h; rfl⟩
  by_cases h2:1000000 < x.found
  ·exact ⟨.ret false,by simp [h1,h2],fun r h=>by cases h; rfl⟩
  obtain ⟨o,ho,h⟩:=a13 N l (k+1)
  exact ⟨o,by simp [h1,h2,ho],h⟩
theorem a11 (N:Nat):∀(l:List Tl) (k:Nat),∃o,aB0 N l k=some o
 |[],k=>⟨.next (),rfl⟩
 |x::l,k=>by
  rw [aB0]
  obtain ⟨o,ho,_⟩:=a13 N x.classes 0
  rw [ho]
  cases o with
  |ret r=>exact ⟨_,rfl⟩
  |next u=>exact a11 N l (k+1)
theorem bV0 (N:Nat) (t:List Tl):∃b,aP9 N t=some b:=by
 unfold aP9
 obtain ⟨o,ho⟩:=a11 N t 0
 rw [ho]
 cases o with
 |ret r=>exact ⟨_,rfl⟩
 |next u=>exact ⟨_,rfl⟩
end Go.Proofs.Ytkecefjmcimemaa
