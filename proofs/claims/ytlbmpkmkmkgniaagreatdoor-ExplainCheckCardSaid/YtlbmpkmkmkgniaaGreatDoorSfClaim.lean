/- From a law's contract in tree values to the given statement's post. No program. -/
import Derived.Test.YtlbmpkmkmkgniaaGreatDoorSfRead
import Derived.Carry
import Derived.ChangeCalls
import Derived.ProofKit
import Derived.OpenShut
set_option linter.all false
namespace Go.Sf
open Go.ChangeShapes Go.WideShapes Go.ChangeAt Go.RowKit
theorem RB {H:Type} {enc:TypeId × Value->H} {P:Program} (j:laidOutB P=true) {W k:World} (l:Below W.heap.size W k) {m:Nat->Bool} :
  ∀ {e:List TypeId} {vs:List Value} {i:List (DataW H)} {f:List MemPlace},e.all (fun t=>P.readableRec t&&decide (t<P.types.size))=true->DataW.TrodAll enc P W 0 (fun _=>true) true e vs i f ->
   (∀ x∈f,x.block<W.heap.size)->(∀ x∈f,m x.block=true)->DataW.TrodAll enc P k 0 m true e vs i f
 | [],_,_,_,_,h,_,_=>by
  obtain ⟨rfl,rfl,rfl⟩:=trodAll_nil h;exact trodAll_mk0
 | t::e,_,_,_,g,h,b,c=>by
  obtain ⟨v,vs,d,i,p,q,rfl,rfl,rfl,n,o⟩:=trodAll_cons h;simp only [List.all_cons,zzZ,zzX] at g;refine ⟨p,q,?_,RB j l g.2 o (fun x a=>b x (List.mem_append_right _ a)) (fun x a=>c x (List.mem_append_right _ a)),rfl⟩;exact WideElems.Trod_stays j g.1.1 g.1.2 n (fun x a=>l.same (b x (List.mem_append_left _ a))) (fun x a=>c x (List.mem_append_left _ a))
def Oo (P:Program) (ts:List TypeId) (A:QQ->Prop):Prop:=
 ∀ (H:Type) (enc:TypeId × Value->H) (W:World) (vs:List Value) (ds:List (DataW H)) (ps:List MemPlace),DataW.TrodAll enc P W 0 (fun _=>true) true ts vs ds ps->∃ as,A as∧TV.WFs as∧AS W Ur as vs∧((∀ n∈DataW.weightsEach P ts ds,n<=reachBytes)->TV.Sms as)
theorem XC {P:Program}:Oo P [] (fun a=>a=[]):=by
 intro H enc W vs b c h;obtain ⟨rfl,rfl,rfl⟩:=trodAll_nil h;exact ⟨[],rfl,trivial,rfl,fun _=>trivial⟩
theorem O6 {P:Program} {t:TypeId} {g:List TypeId} {A:QQ->Prop} {n:Nat} {X:Type} {e:X->TV} (b:n≠1) (k:∀ fuel,DB P t n e fuel) (l:∀ x,∃ cs,e x=.agg cs) (h:Oo P g A) :
  Oo P (t::g) (fun m=>∃ x bs,m=e x::bs∧A bs):=by
 intro H enc W vs r I s;obtain ⟨v,vs,d,r,p,q,rfl,rfl,rfl,⟨fuel,u⟩,w⟩:=trodAll_cons s;obtain ⟨x,z,c,B,j,C⟩:=k fuel H enc W _ _ _ _ u;obtain ⟨bs,D,E,F,G⟩:=h H enc W _ _ _ w;obtain ⟨cs,f⟩:=l x;refine ⟨e x::bs,⟨x,bs,rfl,D⟩,⟨z,E⟩,?_,fun i=>⟨SX (C fun n b=>i n ?_),G fun n b=>i n ?_⟩⟩
 case refine_2=>rw [DataW.weightsEach,List.mem_append]; exact .inl b
 case refine_3=>rw [DataW.weightsEach,List.mem_append]; exact .inr b
 simp only [AS];refine ⟨v,vs,rfl,?_,F⟩;have a:=CN c;rw [f] at c j a ⊢;simp only [TV.cells] at c j a;rw [A7];cases v with
 | agg cells=>
  refine ⟨cells,rfl,by simpa [Value.cells] using c,List.all_eq_true.2 (fun y o=>B y (by simpa [Value.cells] using o))⟩
 | _=>simp [Value.cells] at a; omega
theorem T5 {P:Program} {f:FuncId} {fn:Func} {s:ChangeSpec} {tb:TypeId} {A:QQ->Prop} {d o g again:Bool} (Y:laidOutB P=true) (J:fn.params.toList.all (fun t=>P.readableRec t&&decide (t<P.types.size))=true)
  (S:fn.resultTypes=#[tb]) (y:P.underlying tb=some .bool) (c:s.vars=[]) (Z:∀ (H:Type) (a:List (DataW H)),a.length=fn.params.toList.length->s.fn H (a++[])={ results:=[.lit (.bool true)],args:=a,vars:=[] })
  (hS:∀ h,A h->TV.WFs h->TV.Sms h->AT P f h (.sh (.bool true)))
  (H:Type) (enc:TypeId × Value->H) (W:World) (args:Array Value) (a T:List (DataW H)) (j:List MemPlace) (U:DataW.Whole enc P fn.params.toList s.vars d W args.toList a T j) (z:(DataW.weightsEach P (fn.params.toList++s.plain.varTypes P) (a++T)).all (·<=reachBytes)=true)
  (hA:∀ ps,DataW.TrodAll enc P W 0 (fun _=>true) true fn.params.toList args.toList a ps->∃ h,A h∧TV.WFs h∧AS W Ur h args.toList∧((∀ n∈DataW.weightsEach P fn.params.toList a,n<=reachBytes)->TV.Sms h)) :
  Calls P f args W fun e B=>∃ v,e=.returned v∧s.post enc P fn d o g again W args v B:=by
 have r:=U;obtain ⟨p,q,M,X,rfl,N,O⟩:=U;rw [c] at X;obtain ⟨rfl,rfl⟩:=trodVars_none X;obtain ⟨h,ha,G,I,Q⟩:=hA _ M;have C:=Q (fun n hn=>by
  have hv:s.plain.varTypes P=[]:=by unfold DataSpec.varTypes ChangeSpec.plain; rw [c]; rfl
  rw [hv,List.append_nil,List.append_nil] at z;simpa using List.all_eq_true.1 z n hn)
 obtain ⟨_,w⟩:=(hS h ha G C).to0 rfl G;obtain ⟨_,hC⟩:=w Ur W args I;refine hC.mono fun e B=>?_;rintro ⟨v,rfl,R,hv⟩;simp only [Jx,A7] at hv;subst hv;have D:a.length=fn.params.toList.length:=(trodAll_length M).2;have u:=Z H a D;have E:∀ x∈p,x.block<W.heap.size:=fun x l=>r.lt x (List.mem_append_left _ l);have m:∀ (b:Nat) (k:Nat->Bool) (V:Bool),DataW.TrodAll enc P B b k V fn.resultTypes.toList ((Value.bool true).resultList fn.resultTypes.size) (s.fn H (a++[])).results []:=by
  intro b k V;rw [u,S];exact trodAll_cons_mk (shut_bool y _) trodAll_mk0
 have i:∀ k:Nat->Bool,(∀ x∈p,k x.block=true)->DataW.TrodAll enc P B 0 k true fn.params.toList args.toList (s.fn H (a++[])).args p:=by
  intro k K;rw [u];exact RB Y R J M E K
 have F:∀ k:Nat->Bool,DataW.TrodVars enc P B k s.vars (s.fn H (a++[])).vars []:=by
  intro k;rw [u,c]; rfl
 refine ⟨_,rfl,a,[],p++[],[],p,[],r,m _ _ _,i _ (fun x l=>decide_eq_true (E x l)),F _,R.frame _,fun _=>?_⟩;refine ⟨ok_one S rfl (okWide_bool_mk y _),(s.fn H (a++[])).results++(s.fn H (a++[])).args,(s.fn H (a++[])).vars,p++[],⟨p,[],?_,F _,rfl,?_,O⟩,fun x l _=>l⟩
 ·have:=trodAll_append (i (fun _=>true) (fun _ _=>rfl)) (m 0 (fun _=>true) true);simpa using this
 ·intro b L l;rw [R.frozen (r.lt _ l)];exact N b L l
theorem Wf {P:Program} {f:FuncId} {fn:Func} {s:ChangeSpec} {tb:TypeId} {A:QQ->Prop} {b d c again:Bool} (o:laidOutB P=true) (k:fn.params.toList.all (fun t=>P.readableRec t&&decide (t<P.types.size))=true)
  (p:fn.resultTypes=#[tb]) (l:P.underlying tb=some .bool) (g:s.vars=[]) (q:∀ (H:Type) (i:List (DataW H)),i.length=fn.params.toList.length->s.fn H (i++[])={ results:=[.lit (.bool true)],args:=i,vars:=[] })
  (r:Oo P fn.params.toList A) (u:∀ j,A j->TV.WFs j->TV.Sms j->AT P f j (.sh (.bool true)))
  (H:Type) (enc:TypeId × Value->H) (W:World) (args:Array Value) (i m:List (DataW H)) (a:List MemPlace) (w:DataW.Whole enc P fn.params.toList s.vars b W args.toList i m a) (n:(DataW.weightsEach P (fn.params.toList++s.plain.varTypes P) (i++m)).all (·<=reachBytes)=true) :
  Calls P f args W fun e x=>∃ v,e=.returned v∧s.post enc P fn b d c again W args v x:=
 T5 o k p l g q u H enc W args i m a w n fun _ h=>r H enc W _ _ _ h
end Go.Sf
