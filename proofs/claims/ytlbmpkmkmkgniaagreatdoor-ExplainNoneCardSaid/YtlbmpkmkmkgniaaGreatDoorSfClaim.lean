/- From a law's contract in tree values to the given statement's post. No program. -/
import Derived.Test.YtlbmpkmkmkgniaaGreatDoorSfRead
import Derived.Carry
import Derived.ChangeCalls
import Derived.ProofKit
import Derived.OpenShut
namespace Go.Sf
open Go.ChangeShapes Go.WideShapes Go.ChangeAt Go.RowKit
theorem O6 {H:Type} {enc:TypeId × Value->H} {P:Program} (hl:laidOutB P=true) {W W':World} (hb:Below W.heap.size W W') {sp:Nat->Bool} :
  ∀ {ts:List TypeId} {vs:List Value} {ds:List (DataW H)} {ps:List MemPlace},ts.all (fun t=>P.readableRec t&&decide (t<P.types.size))=true->DataW.TrodAll enc P W 0 (fun _=>true) true ts vs ds ps ->
   (∀ x∈ps,x.block<W.heap.size)->(∀ x∈ps,sp x.block=true)->DataW.TrodAll enc P W' 0 sp true ts vs ds ps
 | [],_,_,_,_,h,_,_=>by
  obtain ⟨rfl,rfl,rfl⟩:=trodAll_nil h
  exact trodAll_mk0
 | t::ts,_,_,_,ht,h,hlt,hsp=>by
  obtain ⟨v,vs,d,ds,p,q,rfl,rfl,rfl,h1,h2⟩:=trodAll_cons h
  simp only [List.all_cons,zzZ,zzX] at ht
  refine ⟨p,q,?_,O6 hl hb ht.2 h2 (fun x hx=>hlt x (List.mem_append_right _ hx)) (fun x hx=>hsp x (List.mem_append_right _ hx)),rfl⟩
  exact WideElems.Trod_stays hl ht.1.1 ht.1.2 h1 (fun x hx=>hb.same (hlt x (List.mem_append_left _ hx))) (fun x hx=>hsp x (List.mem_append_left _ hx))
def M5 (P:Program) (ts:List TypeId) (A:List TV->Prop):Prop:=
 ∀ (H:Type) (enc:TypeId × Value->H) (W:World) (vs:List Value) (ds:List (DataW H)) (ps:List MemPlace),DataW.TrodAll enc P W 0 (fun _=>true) true ts vs ds ps->∃ as,A as∧TV.WFs as∧AQ W Sa as vs∧((∀ n∈DataW.weightsEach P ts ds,n<=reachBytes)->TV.Sms as)
theorem Um {P:Program}:M5 P [] (fun as=>as=[]):=by
 intro H enc W vs ds ps h
 obtain ⟨rfl,rfl,rfl⟩:=trodAll_nil h
 exact ⟨[],rfl,trivial,rfl,fun _=>trivial⟩
theorem NK {P:Program} {t:TypeId} {ts:List TypeId} {A:List TV->Prop} {n:Nat} {X:Type} {e:X->TV} (hn:n≠1) (hr:∀ fuel,DB P t n e fuel) (he:∀ x,∃ cs,e x=.agg cs) (h:M5 P ts A) :
  M5 P (t::ts) (fun as=>∃ x bs,as=e x::bs∧A bs):=by
 intro H enc W vs ds ps h0
 obtain ⟨v,vs,d,ds,p,q,rfl,rfl,rfl,⟨fuel,h1⟩,h2⟩:=trodAll_cons h0
 obtain ⟨x,k1,k2,k3,k4,k5⟩:=hr fuel H enc W _ _ _ _ h1
 obtain ⟨bs,j1,j2,j3,j4⟩:=h H enc W _ _ _ h2
 obtain ⟨cs,hcs⟩:=he x
 refine ⟨e x::bs,⟨x,bs,rfl,j1⟩,⟨k1,j2⟩,?_,fun hw=>⟨QJ (k5 fun n hn=>hw n ?_),j4 fun n hn=>hw n ?_⟩⟩
 case refine_2=>rw [DataW.weightsEach,List.mem_append]; exact .inl hn
 case refine_3=>rw [DataW.weightsEach,List.mem_append]; exact .inr hn
 simp only [AQ]
 refine ⟨v,vs,rfl,?_,j3⟩
 have hlen:=CC k2
 rw [hcs] at k2 k4 hlen ⊢
 simp only [TV.cells] at k2 k4 hlen
 rw [A1]
 cases v with
 | agg cells=>
  refine ⟨cells,rfl,by simpa [Value.cells] using k2,List.all_eq_true.2 (fun y hy=>k3 y (by simpa [Value.cells] using hy))⟩
 | _=>simp [Value.cells] at hlen; omega
theorem Rj {P:Program} {f:FuncId} {fn:Func} {s:ChangeSpec} {tb:TypeId} {A:List TV->Prop} {apart fresh handsOn again:Bool} (hl:laidOutB P=true) (hts:fn.params.toList.all (fun t=>P.readableRec t&&decide (t<P.types.size))=true)
  (hr:fn.resultTypes=#[tb]) (htb:P.underlying tb=some .bool) (hvars:s.vars=[]) (hs:∀ (H:Type) (ds:List (DataW H)),ds.length=fn.params.toList.length->s.fn H (ds++[])={ results:=[.lit (.bool true)],args:=ds,vars:=[] })
  (hS:∀ as,A as->TV.WFs as->TV.Sms as->AR P f as (.sh (.bool true)))
  (H:Type) (enc:TypeId × Value->H) (W:World) (args:Array Value) (ds gs:List (DataW H)) (before:List MemPlace) (hW:DataW.Whole enc P fn.params.toList s.vars apart W args.toList ds gs before) (hwt:(DataW.weightsEach P (fn.params.toList++s.plain.varTypes P) (ds++gs)).all (·<=reachBytes)=true)
  (hA:∀ ps,DataW.TrodAll enc P W 0 (fun _=>true) true fn.params.toList args.toList ds ps->∃ as,A as∧TV.WFs as∧AQ W Sa as args.toList∧((∀ n∈DataW.weightsEach P fn.params.toList ds,n<=reachBytes)->TV.Sms as)) :
  Calls P f args W fun e W'=>∃ v,e=.returned v∧s.post enc P fn apart fresh handsOn again W args v W':=by
 have hW':=hW
 obtain ⟨p,q,hT,hV,rfl,hfz,hnd⟩:=hW
 rw [hvars] at hV
 obtain ⟨rfl,rfl⟩:=trodVars_none hV
 obtain ⟨as,ha,hwf,hrep,hsm⟩:=hA _ hT
 have hsm':=hsm (fun n hn=>by
  have hv:s.plain.varTypes P=[]:=by unfold DataSpec.varTypes ChangeSpec.plain; rw [hvars]; rfl
  rw [hv,List.append_nil,List.append_nil] at hwt
  simpa using List.all_eq_true.1 hwt n hn)
 obtain ⟨_,hcall⟩:=(hS as ha hwf hsm').to0 rfl hwf
 obtain ⟨_,hC⟩:=hcall Sa W args hrep
 refine hC.mono fun e W'=>?_
 rintro ⟨v,rfl,hb,hv⟩
 simp only [Ix,A1] at hv
 subst hv
 have hlen:ds.length=fn.params.toList.length:=(trodAll_length hT).2
 have hfn:=hs H ds hlen
 have hlt:∀ x∈p,x.block<W.heap.size:=fun x hx=>hW'.lt x (List.mem_append_left _ hx)
 have hres:∀ (b:Nat) (sp:Nat->Bool) (hd:Bool),DataW.TrodAll enc P W' b sp hd fn.resultTypes.toList ((Value.bool true).resultList fn.resultTypes.size) (s.fn H (ds++[])).results []:=by
  intro b sp hd
  rw [hfn,hr]
  exact trodAll_cons_mk (shut_bool htb _) trodAll_mk0
 have hargs:∀ sp:Nat->Bool,(∀ x∈p,sp x.block=true)->DataW.TrodAll enc P W' 0 sp true fn.params.toList args.toList (s.fn H (ds++[])).args p:=by
  intro sp hsp
  rw [hfn]
  exact O6 hl hb hts hT hlt hsp
 have hvs:∀ sp:Nat->Bool,DataW.TrodVars enc P W' sp s.vars (s.fn H (ds++[])).vars []:=by
  intro sp
  rw [hfn,hvars]; rfl
 refine ⟨_,rfl,ds,[],p++[],[],p,[],hW',hres _ _ _,hargs _ (fun x hx=>decide_eq_true (hlt x hx)),hvs _,hb.frame _,fun _=>?_⟩
 refine ⟨ok_one hr rfl (okWide_bool_mk htb _),(s.fn H (ds++[])).results++(s.fn H (ds++[])).args,(s.fn H (ds++[])).vars,p++[],⟨p,[],?_,hvs _,rfl,?_,hnd⟩,fun x hx _=>hx⟩
 ·have:=trodAll_append (hargs (fun _=>true) (fun _ _=>rfl)) (hres 0 (fun _=>true) true)
  simpa using this
 ·intro b off hx
  rw [hb.frozen (hW'.lt _ hx)]
  exact hfz b off hx
theorem UN {P:Program} {f:FuncId} {fn:Func} {s:ChangeSpec} {tb:TypeId} {A:List TV->Prop} {apart fresh handsOn again:Bool} (hl:laidOutB P=true) (hts:fn.params.toList.all (fun t=>P.readableRec t&&decide (t<P.types.size))=true)
  (hr:fn.resultTypes=#[tb]) (htb:P.underlying tb=some .bool) (hvars:s.vars=[]) (hs:∀ (H:Type) (ds:List (DataW H)),ds.length=fn.params.toList.length->s.fn H (ds++[])={ results:=[.lit (.bool true)],args:=ds,vars:=[] })
  (hA:M5 P fn.params.toList A) (hS:∀ as,A as->TV.WFs as->TV.Sms as->AR P f as (.sh (.bool true)))
  (H:Type) (enc:TypeId × Value->H) (W:World) (args:Array Value) (ds gs:List (DataW H)) (before:List MemPlace) (hW:DataW.Whole enc P fn.params.toList s.vars apart W args.toList ds gs before) (hwt:(DataW.weightsEach P (fn.params.toList++s.plain.varTypes P) (ds++gs)).all (·<=reachBytes)=true) :
  Calls P f args W fun e W'=>∃ v,e=.returned v∧s.post enc P fn apart fresh handsOn again W args v W':=
 Rj hl hts hr htb hvars hs hS H enc W args ds gs before hW hwt fun _ h=>hA H enc W _ _ _ h
end Go.Sf
