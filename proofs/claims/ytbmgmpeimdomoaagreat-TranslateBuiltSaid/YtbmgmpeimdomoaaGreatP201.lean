/- Plain lemmas: what the functions of the program and of the reference compute. -/
import Derived.Test.YtbmgmpeimdomoaaGreatP138
set_option linter.all false
set_option maxRecDepth 100000
namespace Go.Sf.Sc
open Go Go.Sf
section
variable{t:AC}{s:An}{c7:List d3}{l:Fp}
theorem fF(hf:Ap t)(b:∀r∈c7,Df r)(c:∀r∈c7,B8 t s r=0):∀(ms:List C8)(B:AH)(w:AH×AH),Cw (EB t c7) ms (zH,B)=.inl w->(Br t B).2=0->w=(zH,w.2)/\(Br t w.2).2=0/\∀m∈ms,0<=m.d3/\m.d3<c7.length
 |[],B,w,e,d=>by
  cases e;exact⟨rfl,d,λm a=>by cases a⟩
 |m::ms,B,w,e,d=>by
  rw [Cw]at e;cases k:EB t c7 m (zH,B)with
  |inr r=>rw[k]at e;cases e
  |inl v=>
   rw [k]at e;have hv:=Wp k;rw[hv]at k e;obtain⟨hi,_,_,f⟩:=Wq hf b c k;obtain⟨g,i,j⟩:=fF hf b c ms v.2 w e f;refine⟨g,i,λm' a=>?_⟩;rcases List.mem_cons.1 a with rfl|a
   .exact hi
   .exact j m' a
theorem rU(hf:Ap t)(d:∀r∈c7,Df r){ms:List C8}(e:(Mq t s c7 ms).2=0):DP t s c7=0/\ms.length<=30/\Cw (EB t c7) ms (zH,zH)=.inl (zH,(Mq t s c7 ms).1)/\(Br t (Mq t s c7 ms).1).2=0/\∀m∈ms,0<=m.d3/\m.d3<c7.length:=by
 have a:DP t s c7=0:=Classical.byContradiction λh=>by
  unfold Mq at e;rw[Ne h]at e;exact h e
 have c:¬30<(ms.length:Int):=λh=>by
  unfold Mq at e;rw[QQ (by simp[a]),Ne h]at e;cases e
 have hv:=(PW (OM a).2).1;have b:Mq t s c7 ms=match Cw (EB t c7) ms (zH,zH)with
  |.inl x=>(x.2,0)|.inr r=>r:=by
  unfold Mq;rw[QQ (by simp[a]),QQ c];rfl
 cases k:Cw (EB t c7) ms (zH,zH)with
 |inl w=>
  rw [k]at b;obtain⟨i,j,n⟩:=fF hf d (MO a) ms zH w k (Yn hv);rw[b];exact⟨a,U,by rw[<-i],j,n⟩
 |inr r=>
  exfalso;rw[k]at b;rw[b]at e;have:=(Np (g:=EB t c7) (I:=λ_=>True) (R:=λr=>r.2≠0) (l:=ms) (s:=(zH,zH)) (λm _ x _=>⟨λ_ _=>trivial,λr h=>by
   unfold EB at h;split at h
   .cases h;show(6:Int)≠0;decide
   split at h
   next f=>cases h;exact f
   .cases h⟩) trivial).2 r k
  exact this e
variable{h:AH}{z:Int}
end
end Go.Sf.Sc
