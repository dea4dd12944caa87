/- From a law's contract in tree values to the given statement's post. No program. -/
import Derived.Test.YtlbmpkmkmkgniaaGreatDoorSfRead
import Derived.Carry
import Derived.ChangeCalls
import Derived.ProofKit
import Derived.OpenShut
set_option linter.all false
namespace Go.Sf
open Go.ChangeShapes Go.WideShapes Go.ChangeAt Go.RowKit
variable {P:Program}
theorem Q6 {H:Type} {enc:TypeId × Value->H} (k:laidOutB P=true) {W l:World} (m:Below W.heap.size W l) {n:Nat->Bool} :
  ∀ {e:List TypeId} {vs:List Value} {j:List (DataW H)} {g:List MemPlace},e.all (fun t=>P.readableRec t&&decide (t<P.types.size))=true->DataW.TrodAll enc P W 0 (fun _=>true) true e vs j g ->
   (∀ x∈g,x.block<W.heap.size)->(∀ x∈g,n x.block=true)->DataW.TrodAll enc P l 0 n true e vs j g
 | [],_,_,_,_,h,_,_=>by
  obtain ⟨rfl,rfl,rfl⟩:=trodAll_nil h;exact trodAll_mk0
 | t::e,_,_,_,i,h,b,c=>by
  obtain ⟨v,vs,d,j,p,q,rfl,rfl,rfl,o,r⟩:=trodAll_cons h;simp only [List.all_cons,zzZ,zzX] at i;refine ⟨p,q,?_,Q6 k m i.2 r (fun x a=>b x (List.mem_append_right _ a)) (fun x a=>c x (List.mem_append_right _ a)),rfl⟩;exact WideElems.Trod_stays k i.1.1 i.1.2 o (fun x a=>m.same (b x (List.mem_append_left _ a))) (fun x a=>c x (List.mem_append_left _ a))
def Ol (P:Program) (ts:List TypeId) (A:QQ->Prop):Prop:=
 ∀ (H:Type) (enc:TypeId × Value->H) (W:World) (vs:List Value) (ds:List (DataW H)) (ps:List MemPlace),DataW.TrodAll enc P W 0 (fun _=>true) true ts vs ds ps->∃ as,A as∧TV.WFs as∧AS W Ui as vs∧((∀ n∈DataW.weightsEach P ts ds,n<=reachBytes)->TV.Sms as)
theorem W6:Ol P [] (fun a=>a=[]):=by
 intro H enc W vs b c h;obtain ⟨rfl,rfl,rfl⟩:=trodAll_nil h;exact ⟨[],rfl,trivial,rfl,fun _=>trivial⟩
variable {A:QQ->Prop}
theorem O1 {t:TypeId} {i:List TypeId} {n:Nat} {X:Type} {e:X->TV} (b:n≠1) (l:∀ fuel,DQ P t n e fuel) (m:∀ x,∃ cs,e x=.agg cs) (h:Ol P i A) :
  Ol P (t::i) (fun o=>∃ x bs,o=e x::bs∧A bs):=by
 intro H enc W vs u K w;obtain ⟨v,vs,d,u,p,q,rfl,rfl,rfl,⟨fuel,z⟩,B⟩:=trodAll_cons w;obtain ⟨x,C,c,D,k,E⟩:=l fuel H enc W _ _ _ _ z;obtain ⟨bs,F,G,I,J⟩:=h H enc W _ _ _ B;obtain ⟨cs,g⟩:=m x;refine ⟨e x::bs,⟨x,bs,rfl,F⟩,⟨C,G⟩,?_,fun j=>⟨Sv (E fun n b=>j n ?_),J fun n b=>j n ?_⟩⟩
 case refine_2=>rw [DataW.weightsEach,List.mem_append]; exact .inl b
 case refine_3=>rw [DataW.weightsEach,List.mem_append]; exact .inr b
 simp only [AS];refine ⟨v,vs,rfl,?_,I⟩;have a:=CN c;rw [g] at c k a ⊢;simp only [TV.cells] at c k a;rw [A7];cases v with
 | agg cells=>
  refine ⟨cells,rfl,by simpa [Value.cells] using c,List.all_eq_true.2 (fun y r=>D y (by simpa [Value.cells] using r))⟩
 | _=>simp [Value.cells] at a; omega
variable {f:FuncId} {fn:Func} {s:ChangeSpec} {apart fresh handsOn again:Bool}
theorem Tv {tb:TypeId} (U:laidOutB P=true) (F:fn.params.toList.all (fun t=>P.readableRec t&&decide (t<P.types.size))=true)
  (O:fn.resultTypes=#[tb]) (r:P.underlying tb=some .bool) (c:s.vars=[]) (V:∀ (H:Type) (a:List (DataW H)),a.length=fn.params.toList.length->s.fn H (a++[])={ results:=[.lit (.bool true)],args:=a,vars:=[] })
  (X:∀ d,A d->TV.WFs d->TV.Sms d->AU P f d (.sh (.bool true)))
  (H:Type) (enc:TypeId × Value->H) (W:World) (args:Array Value) (a Q:List (DataW H)) (h:List MemPlace) (R:DataW.Whole enc P fn.params.toList s.vars apart W args.toList a Q h) (u:(DataW.weightsEach P (fn.params.toList++s.plain.varTypes P) (a++Q)).all (·<=reachBytes)=true)
  (Y:∀ Z,DataW.TrodAll enc P W 0 (fun _=>true) true fn.params.toList args.toList a Z->∃ d,A d∧TV.WFs d∧AS W Ui d args.toList∧((∀ n∈DataW.weightsEach P fn.params.toList a,n<=reachBytes)->TV.Sms d)) :
  Calls P f args W fun e w=>∃ v,e=.returned v∧s.post enc P fn apart fresh handsOn again W args v w:=by
 have l:=R;obtain ⟨p,q,J,T,rfl,K,L⟩:=R;rw [c] at T;obtain ⟨rfl,rfl⟩:=trodVars_none T;obtain ⟨d,ha,D,E,M⟩:=Y _ J;have y:=M (fun n hn=>by
  have hv:s.plain.varTypes P=[]:=by unfold DataSpec.varTypes ChangeSpec.plain; rw [c]; rfl
  rw [hv,List.append_nil,List.append_nil] at u;simpa using List.all_eq_true.1 u n hn)
 obtain ⟨_,o⟩:=(X d ha D y).to0 rfl D;obtain ⟨_,hC⟩:=o Ui W args E;refine hC.mono fun e w=>?_;rintro ⟨v,rfl,N,hv⟩;simp only [Ju,A7] at hv;subst hv;have z:a.length=fn.params.toList.length:=(trodAll_length J).2;have m:=V H a z;have B:∀ x∈p,x.block<W.heap.size:=fun x j=>l.lt x (List.mem_append_left _ j);have k:∀ (b:Nat) (i:Nat->Bool) (S:Bool),DataW.TrodAll enc P w b i S fn.resultTypes.toList ((Value.bool true).resultList fn.resultTypes.size) (s.fn H (a++[])).results []:=by
  intro b i S;rw [m,O];exact trodAll_cons_mk (shut_bool r _) trodAll_mk0
 have g:∀ i:Nat->Bool,(∀ x∈p,i x.block=true)->DataW.TrodAll enc P w 0 i true fn.params.toList args.toList (s.fn H (a++[])).args p:=by
  intro i G;rw [m];exact Q6 U N F J B G
 have C:∀ i:Nat->Bool,DataW.TrodVars enc P w i s.vars (s.fn H (a++[])).vars []:=by
  intro i;rw [m,c]; rfl
 refine ⟨_,rfl,a,[],p++[],[],p,[],l,k _ _ _,g _ (fun x j=>decide_eq_true (B x j)),C _,N.frame _,fun _=>?_⟩;refine ⟨ok_one O rfl (okWide_bool_mk r _),(s.fn H (a++[])).results++(s.fn H (a++[])).args,(s.fn H (a++[])).vars,p++[],⟨p,[],?_,C _,rfl,?_,L⟩,fun x j _=>j⟩
 ·have:=trodAll_append (g (fun _=>true) (fun _ _=>rfl)) (k 0 (fun _=>true) true);simpa using this
 ·intro b I j;rw [N.frozen (l.lt _ j)];exact K b I j
theorem WX {tb:TypeId} (l:laidOutB P=true) (g:fn.params.toList.all (fun t=>P.readableRec t&&decide (t<P.types.size))=true)
  (m:fn.resultTypes=#[tb]) (i:P.underlying tb=some .bool) (b:s.vars=[]) (n:∀ (H:Type) (c:List (DataW H)),c.length=fn.params.toList.length->s.fn H (c++[])={ results:=[.lit (.bool true)],args:=c,vars:=[] })
  (o:Ol P fn.params.toList A) (p:∀ d,A d->TV.WFs d->TV.Sms d->AU P f d (.sh (.bool true)))
  (H:Type) (enc:TypeId × Value->H) (W:World) (args:Array Value) (c j:List (DataW H)) (a:List MemPlace) (q:DataW.Whole enc P fn.params.toList s.vars apart W args.toList c j a) (k:(DataW.weightsEach P (fn.params.toList++s.plain.varTypes P) (c++j)).all (·<=reachBytes)=true) :
  Calls P f args W fun e r=>∃ v,e=.returned v∧s.post enc P fn apart fresh handsOn again W args v r:=
 Tv l g m i b n p H enc W args c j a q k fun _ h=>o H enc W _ _ _ h
end Go.Sf
