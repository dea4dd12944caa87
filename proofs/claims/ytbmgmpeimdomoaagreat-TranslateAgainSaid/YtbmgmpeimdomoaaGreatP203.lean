/- Plain lemmas: what the functions of the program and of the reference compute. -/
import Derived.Test.YtbmgmpeimdomoaaGreatP202
set_option linter.all false
set_option maxRecDepth 100000
open Option renaming some->Y
open Bool renaming true->X,false->T
namespace Go.Sf.Sc
open Go Go.Sf
instance:Inhabited F9:=⟨⟨⟨[],[]⟩,[],[]⟩⟩
structure vF(v:Ce×List DC×AH×Bool):Prop where
 ct:v.1.θ=Dz
 cs:v.1.S=Gk
 rl:∀r∈v.1.kl,ZY r
 bd:LU Dz Gk v.1.kl v.2.1=(v.2.2.1,0)
variable{d:F7}
theorem bM(hd:∀x∈d.kl,P9 x)(m:∀x∈d.Aat,Hd x):∃v,Mp d=Y v/\(v.2.2.2=X->vF v):=by
 unfold Mp;rw[mF,bs];obtain⟨f,e0,y,p⟩:∃f:List d4,(if decide ((d.kl.length:Int)=0)=X then GO.bind λi=>Y (Ce.mk Dz Gk i)else Y (Ce.mk Dz Gk []))=Y (Ce.mk Dz Gk f)/\f.length<=2/\∀r∈f,ZY r:=by
  by_cases h:(d.kl.length:Int)=0
  .obtain⟨L,e,l2,q⟩:=qQ;exact⟨L,by rw[Ne c!,e];rfl,U,q⟩
  .exact⟨[],by rw[QQ c!],V,V⟩
 dsimp only;rw[e0,bs];refine UN (λ(n:Nat)(s:Ce×Int)=>(0<=s.2/\s.2+(n:Int)=3)/\s.1.θ=Dz/\s.1.S=Gk/\(s.1.kl.length:Int)<=2+s.2/\∀r∈s.1.kl,ZY r) (λs=>s.1.θ=Dz/\s.1.S=Gk/\s.1.kl.length<=5/\∀r∈s.1.kl,ZY r) 3 ⟨⟨V,V⟩,rfl,rfl,by show(f.length:Int)<=2+0;omega,p⟩ (λn s⟨a1,hT,c,k,a⟩=>?_) (λs⟨a1,hT,c,k,a⟩=>?_) (λs⟨hT,c,k,a⟩=>?_)
 .by_cases hi:s.2<(d.kl.length:Int)/\s.2<3
  .obtain⟨r,u,g⟩:=X6 (hd _ (AG a1.1 hi.1));rw[Ne h?,AD a1.1 hi.1,bs,u,bs,AS a?,bs,Ap U U];refine .inl ⟨_,rfl,⟨e?,e?⟩,hT,c,an,λo h=>?_⟩;rcases List.mem_append.1 h with h|h
   .exact a o h
   .obtain rfl:=List.mem_singleton.1 h;exact g
  .rw[QQ h?];exact .inr ⟨_,rfl,hT,c,e?,a⟩
 .rw[QQ an];exact⟨_,rfl,hT,c,e?,a⟩
 .have g:∀r∈s.1.kl,DN r:=λr h=>(a r h).1;obtain⟨b,w,z⟩:=Zq (t:=Dz) (s:=Gk) (Zl CE) (λr h=>(a r h).2) ⟨⟨[],[]⟩,[]⟩;rw[en CE Gk g,bs];by_cases j:C9 Dz Gk s.1.kl=0
  .rw[QQ j!,w,bs,bs];cases b with
   |false=>exact⟨_,rfl,λh=>d_⟩
   |true=>
    obtain ⟨l,el,A⟩:=kj CE (λr h=>⟨g r h,Rl (Iz j r h)⟩) U m;rw[QQ a_,el,bs,AAS CE g,bs];exact⟨_,rfl,λh=>⟨hT,c,a,Prod.ext rfl (of_decide_eq_true h)⟩⟩
  .rw[Ne j!,bs,Ne rfl];exact⟨_,rfl,λh=>d_⟩
theorem Yc(h:(D1 d).WF):(∀x∈d.kl,P9 x)/\∀x∈d.Aat,Hd x:=by
 have b:TV.nm [_,_]:=h;exact⟨λx a=>jy (RH b.1 x a),λx a=>P8 (RH b.2.1 x a)⟩
section
variable{t:AC}{s:Ak}{c8:List d4}{l:Fp}
variable{h:AH}
theorem TC(a:C9 t s c8=0)(hh:(Bc t h).2=0)(ho:If s h.bk l=T):Ig t s c8 h l=L9 t s c8 h l:=by
 unfold Ig;rw[QQ (by simp[a]),QQ q!,QQ (by simp[ho])]
theorem ic(hf:Ao t)(f:C9 t s c8=0)(hh:(Bc t h).2=0):If s h.bk [1,2,3]=T:=by
 obtain ⟨_,hO⟩:=Du hf hh;obtain⟨i,j⟩:=UB (Jc (JP f).2);obtain⟨b,c⟩:=Cw hO.g hO.ty;unfold If;rw[Bool.or_eq_false_iff,List.any_eq_false,List.any_eq_false];refine⟨λn a=>?_,λe he=>?_⟩
 .rw[i n (b n a).1 (b n a).2];decide
 .rw[j _ (c e he).1 (c e he).2];decide
theorem tK{x:BU}(h:Ut t s c8 x=X):(LU t s c8 x.Aao).2=0/\Xt (LU t s c8 x.Aao).1.bk x.jj.bk x.Iso=X:=by
 unfold Ut at h;split at h
 .cases h
 rename_i a;split at h
 .cases h
 exact ⟨Classical.not_not.1 a,h⟩
theorem mz{ζ:BU×Int}{F:BU->I1}(h:ζ.2=0\/ζ.2=3)(e:ζ.2=0->F ζ.1=Y X):((if((!decide (ζ.2=0))&&(!decide (ζ.2=3)))=X then Y X else((if(decide (ζ.2=0))=X then((F ζ.1).bind λa=>Y (!a))else Y T).bind λb=>Y (b))).bind λc=>if c=X then Y (B3.ret (σ:=Unit) T)else Y (.next ()))=Y (.next ()):=by
 rcases h with h|h
 .rw[e h,h];rfl
 .rw[h];rfl
end
theorem UX(d:F7)(C:(D1 d).WF):H6 d=Y X:=by
 obtain ⟨E,F⟩:=Yc C;obtain⟨⟨⟨Q,gS,u⟩,l,H,b⟩,ev,G⟩:=bM E F;unfold H6;rw[dA,bs];by_cases o:20<(d.Aat.length:Int)
 .rw[Ne j_];rfl
 rw [QQ j_,ev,bs];cases b with
 |false=>rfl|true=>
 obtain ⟨ct,cs,rl,bd⟩:=G rfl;dsimp only at ct cs rl bd;subst ct cs;have m:∀r∈u,DN r:=λr h=>(rl r h).1;have A:=Zb CE m (ms:=l) (by rw[bd]);rw[bd]at A;obtain⟨n,y,c,v,j⟩:=A;dsimp only at c v;obtain⟨_,hO⟩:=Du CE v;rw[QQ V,BO (λ_=>T) T λi P D _=>?_]
 .rfl
 obtain ⟨z,I,w⟩:∃z:Int,idx [1,3] i=Y z/\(z=1\/z=3):=by
  have:i=0\/i=1:=by simp at D;omega
  rcases this with rfl|rfl
  .exact⟨1,rfl,.inl rfl⟩
  .exact⟨3,rfl,.inr rfl⟩
 have e:hasB [z] 2=T:=by rcases w with rfl|rfl<;>decide
 obtain ⟨p,J⟩:=Zw CE n v w;obtain⟨B,ho⟩:=Vc CE n v e;obtain⟨K,L,M⟩:=bK (t:=Dz) (g:=⟨Dz,Gk,u⟩) (l:=l) (z:=z) (Iz n) j;obtain⟨N,O,_⟩:=Zq (t:=Dz) (s:=Gk) (Zl CE) (λr h=>(rl r h).2) (F4 Gk H z);rw[I,bs,J,bs,QQ V,L,bs];cases K with
 |false=>rfl|true=>
 rw [QQ a_,O,bs,bs];cases N with
 |false=>rfl|true=>
 have q:=M rfl;have x:Li z=[z]:=by rcases w with rfl|rfl<;>rfl
 rw [x]at q;have a:=X3 CE m n (l:=[z]) (λh=>by rw[e]at h;cases h) B ho (eY v hO (Jc (JP n).2) e) y c q;rw[<-TC n B ho]at a;have k:(Ig Dz Gk u (F4 Gk H z) [z]).2=0->Dm Dz Gk u (Ig Dz Gk u (F4 Gk H z) [z]).1=Y X:=λf=>by
  rw [wa CE m,(ZG CE m (λh=>by rw[e]at h;cases h) f).2.2.1]
 rw [QQ a_];rcases w with rfl|rfl
 .rw[Ne a_,sS CE m,bs];exact mz a k
 .rw[QQ a_,sR CE m,bs];exact mz a k
theorem UW(d:F7)(δ:(D1 d).WF):H5 d=Y X:=by
 obtain ⟨Z,h2⟩:=Yc δ;obtain⟨⟨⟨gT,gS,k⟩,l,H,b⟩,ev,fv⟩:=bM Z h2;unfold H5;rw[dA,bs];by_cases C:20<(d.Aat.length:Int)
 .rw[Ne (by simp[C])];rfl
 rw [QQ (by simp[C]),ev,bs];cases b with
 |false=>rfl|true=>
 obtain ⟨ct,cs,rl,bd⟩:=fv rfl;dsimp only at ct cs rl bd;subst ct cs;have o:∀r∈k,DN r:=λr h=>(rl r h).1;have η:=Zb CE o (ms:=l) (by rw[bd]);rw[bd]at η;obtain⟨a,_,_,Q,_⟩:=η;dsimp only at Q;have O:=Jc (JP a).2;obtain⟨p,ep⟩:=Zw CE a Q (.inl rfl);obtain⟨N,ho⟩:=Vc CE a Q (z:=1) a_;have c:=λh=>Zq (t:=Dz) (s:=Gk) (c8:=k) (Zl CE) (λr h=>(rl r h).2) h;obtain⟨b1,e1,_⟩:=c (F4 Gk H 1);rw[QQ V,ep,bs,QQ V,e1,bs,bs];cases b1 with
 |false=>rfl|true=>
 rw [QQ a_,sS CE o,bs];by_cases D:(Ig Dz Gk k (F4 Gk H 1) [1]).2=0
 .obtain⟨_,hT,I,_,_⟩:=ZG CE o a_ D;have P:∀m∈(Ig Dz Gk k (F4 Gk H 1) [1]).1.Aao,RJ Gk [1] k m:=by
   have E:=D;rw[TC a N ho]at E|-;exact uO CE a N E
  rw [QQ (by simp[D])];generalize (Ig Dz Gk k (F4 Gk H 1) [1]).1=x at *;obtain⟨c1,c2⟩:=tK I;obtain⟨_,J,j,R,i⟩:=Zb CE o c1;obtain⟨_,K⟩:=Du CE R;obtain⟨_,S⟩:=Du CE hT;have ζ:=uM R K O c2;have q:=X3 CE o a (l:=[1,2,3]) a_ hT (ic CE a hT) ζ J j λm ε=>pj (Iz a) (i m ε) (P m ε) λy κ=>by
   rw [Ie,o4]at κ;subst κ;decide
  rw [<-TC a hT (ic CE a hT)]at q;obtain⟨p3,θ⟩:=Zw CE a hT (.inr rfl);obtain⟨L,M⟩:=Vc CE a hT (z:=3) a_;obtain⟨b3,e3,f3⟩:=bK (t:=Dz) (g:=⟨Dz,Gk,k⟩) (l:=x.Aao) (z:=3) (Iz a) i;obtain⟨b4,e4,_⟩:=c (F4 Gk x.jj 3);obtain⟨b2,e2,_⟩:=c x.jj;have F:((HH Dz Gk x.jj 3).bind λe=>
   (if(!decide (e.2.2=0))=X then Y X else((GY ⟨Dz,Gk,k⟩ x.Aao 3).bind λv=>Y (!v))).bind λw=>
   (if w=X then Y X else((FP Dz Gk k e.1).bind λA=>Y (!A))).bind λB=>
   if B=X then Y (decide (e.2.2=0))else
   (Ea Dz Gk k e.1).bind λn=>Y ((decide (n.2=0))||(decide (n.2=3))))=Y X:=by
   rw [θ,bs,QQ V,e3,bs,bs];cases b3 with
   |false=>rfl|true=>
   rw [QQ a_,e4,bs,bs];cases b4 with
   |false=>rfl|true=>
   have G:=f3 rfl;have u:=X3 CE o a (l:=[3]) a_ L M (qF R K O a_ ζ (eY hT S O a_)) J j G;rw[<-TC a L M]at u;rw[QQ a_,sR CE o,bs];rcases u with f|f<;>rw[f]<;>rfl
  rw [e2,bs,F,AAM CE o,bs];cases b2 with
  |false=>rfl|true=>rcases q with f|f<;>rw[f]<;>rfl
 .rw[Ne (by simp[D])];have:=iz CE a (l:=[1]) a_ N;rw[<-TC a N ho]at this;rcases this with f|f|f
  .exact absurd f D
  .rw[f];rfl
  .rw[f];rfl
end Go.Sf.Sc
