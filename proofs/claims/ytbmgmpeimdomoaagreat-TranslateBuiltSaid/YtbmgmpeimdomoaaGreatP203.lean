/- Plain lemmas: what the functions of the program and of the reference compute. -/
import Derived.Test.YtbmgmpeimdomoaaGreatP202
set_option linter.all false
set_option maxRecDepth 100000
namespace Go.Sf.Sc
open Go Go.Sf
instance:Inhabited Ft:=⟨⟨⟨[],[]⟩,[],[]⟩⟩
structure tX(v:CZ×List C8×AH×Bool):Prop where
 ct:v.1.θ=F6
 cs:v.1.S=QZ
 rl:∀r∈v.1.l4,YX r
 bd:Mq F6 QZ v.1.l4 v.2.1=(v.2.2.1,0)
variable{d:JO}
theorem l9(hd:∀x∈d.l4,Px x)(m:∀x∈d.AaD,HC x):∃v,OR d=some v/\(v.2.2.2=true->tX v):=by
 unfold OR;rw[kP,bs];obtain⟨f,e0,y,p⟩:∃f:List d3,(if decide ((d.l4.length:Int)=0)=true then GD.bind λi=>some (CZ.mk F6 QZ i)else some (CZ.mk F6 QZ []))=some (CZ.mk F6 QZ f)/\f.length<=2/\∀r∈f,YX r:=by
  by_cases h:(d.l4.length:Int)=0
  .obtain⟨L,e,l2,q⟩:=om;exact⟨L,by rw[Ne c_,e];rfl,U,q⟩
  .exact⟨[],by rw[QQ c_],V,V⟩
 dsimp only;rw[e0,bs];refine Tw (λ(n:Nat)(s:CZ×Int)=>(0<=s.2/\s.2+(n:Int)=3)/\s.1.θ=F6/\s.1.S=QZ/\(s.1.l4.length:Int)<=2+s.2/\∀r∈s.1.l4,YX r) (λs=>s.1.θ=F6/\s.1.S=QZ/\s.1.l4.length<=5/\∀r∈s.1.l4,YX r) 3 ⟨⟨V,V⟩,rfl,rfl,by show(f.length:Int)<=2+0;omega,p⟩ (λn s⟨a1,hT,c,k,a⟩=>?_) (λs⟨a1,hT,c,k,a⟩=>?_) (λs⟨hT,c,k,a⟩=>?_)
 .by_cases hi:s.2<(d.l4.length:Int)/\s.2<3
  .obtain⟨r,u,g⟩:=Wy (hd _ (AG a1.1 hi.1));rw[Ne h!,AD a1.1 hi.1,bs,u,bs,AV a!,bs,Ao U U];refine .inl ⟨_,rfl,⟨e?,e?⟩,hT,c,an,λo h=>?_⟩;rcases List.mem_append.1 h with h|h
   .exact a o h
   .obtain rfl:=List.mem_singleton.1 h;exact g
  .rw[QQ h!];exact .inr ⟨_,rfl,hT,c,e?,a⟩
 .rw[QQ an];exact⟨_,rfl,hT,c,e?,a⟩
 .have g:∀r∈s.1.l4,Df r:=λr h=>(a r h).1;obtain⟨b,w,z⟩:=fi (t:=F6) (s:=QZ) (fU FT) (λr h=>(a r h).2) ⟨⟨[],[]⟩,[]⟩;rw[dA FT QZ g,bs];by_cases j:DP F6 QZ s.1.l4=0
  .rw[QQ j_,w,bs,bs];cases b with
   |false=>exact⟨_,rfl,λh=>c?⟩
   |true=>
    obtain ⟨l,el,A⟩:=jS FT (λr h=>⟨g r h,RX (MO j r h)⟩) U m;rw[QQ a_,el,bs,y5 FT g,bs];exact⟨_,rfl,λh=>⟨hT,c,a,Prod.ext rfl (of_decide_eq_true h)⟩⟩
  .rw[Ne j_,bs,Ne rfl];exact⟨_,rfl,λh=>c?⟩
theorem iW(h:(IH d).WF):(∀x∈d.l4,Px x)/\∀x∈d.AaD,HC x:=by
 have b:TV.ns [_,_]:=h;exact⟨λx a=>iV (Q4 b.1 x a),λx a=>Pw (Q4 b.2.1 x a)⟩
section
variable{t:AC}{s:An}{c7:List d3}{l:Fp}
variable{h:AH}
theorem sS(a:DP t s c7=0)(hh:(Br t h).2=0)(ho:JQ s h.bi l=false):Ms t s c7 h l=Ob t s c7 h l:=by
 unfold Ms;rw[QQ (by simp[a]),QQ t?,QQ (by simp[ho])]
theorem r9(hf:Ap t)(f:DP t s c7=0)(hh:(Br t h).2=0):JQ s h.bi [1,2,3]=false:=by
 obtain ⟨_,hO⟩:=FU hf hh;obtain⟨i,j⟩:=XD (Oq (OM f).2);obtain⟨b,c⟩:=Cu hO.g hO.ty;unfold JQ;rw[Bool.or_eq_false_iff,List.any_eq_false,List.any_eq_false];refine⟨λn a=>?_,λe he=>?_⟩
 .rw[i n (b n a).1 (b n a).2];decide
 .rw[j _ (c e he).1 (c e he).2];decide
end
theorem T8(d:JO)(u:(IH d).WF):Hj d=some true:=by
 obtain ⟨v,w⟩:=iW u;obtain⟨⟨⟨E,gS,q⟩,l,H,b⟩,ev,x⟩:=l9 v w;unfold Hj;rw[nM,bs];by_cases k:20<(d.AaD.length:Int)
 .rw[Ne (by simp[k])];rfl
 rw [QQ (by simp[k]),ev,bs];cases b with
 |false=>rfl|true=>
 obtain ⟨ct,cs,rl,bd⟩:=x rfl;dsimp only at ct cs rl bd;subst ct cs;have j:∀r∈q,Df r:=λr h=>(rl r h).1;have p:=rU FT j (ms:=l) (by rw[bd]);rw[bd]at p;obtain⟨n,o,a,i,c⟩:=p;dsimp only at a i;obtain⟨_,hO⟩:=FU FT i;obtain⟨y,A,B⟩:=l7 (t:=F6) (g:=⟨F6,QZ,q⟩) (l:=l) (z:=0) (MO n) c;obtain⟨C,D,_⟩:=fi (t:=F6) (s:=QZ) (fU FT) (λr h=>(rl r h).2) H;rw[QQ V,A,bs,bs];cases y with
 |false=>rfl|true=>
 rw [QQ a_,D,bs,bs];cases C with
 |false=>rfl|true=>
 have m:=nC FT i;have ho:=r9 FT n i;have e:=ob FT j n (l:=[1,2,3]) a_ i ho (vW i hO (Oq (OM n).2)) o a (B rfl);rw[<-sS n i ho]at e;rw[QQ a_,qf FT j,bd,bs,yu FT j,bs,Ne V,sq m m,bs,bs,Ne V];rcases e with f|f
 .rw[QQ (by simp[f]),Ne (by simp[f]),u9 FT j,(jR FT j a_ f).2.2.1];rfl
 .rw[Ne (by simp[f])];rfl
end Go.Sf.Sc
