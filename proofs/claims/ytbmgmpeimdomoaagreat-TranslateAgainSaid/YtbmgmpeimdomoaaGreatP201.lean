/- Plain lemmas: what the functions of the program and of the reference compute. -/
import Derived.Test.YtbmgmpeimdomoaaGreatP138
set_option linter.all false
set_option maxRecDepth 100000
open List renaming filter_cons->w_,replicate->w!,getD_eq_getElem?_getD->w?,getElem?_eq_getElem->x_,eq_of_mem_replicate->x!,any_eq_false->x?
namespace Go.Sf.Sc
open Go Go.Sf
section
variable{t:AC}{s:Ak}{c8:List d4}{l:Fp}
theorem g6(hf:Ao t)(b:∀r∈c8,DN r)(c:∀r∈c8,B8 t s r=0):∀(ms:List DC)(B:AH)(w:AH×AH),C2 (EN t c8) ms (zH,B)=.inl w->(Bc t B).2=0->w=(zH,w.2)/\(Bc t w.2).2=0/\∀m∈ms,0<=m.d4/\m.d4<c8.length
 |[],B,w,e,d=>by
  cases e;exact⟨rfl,d,λm a=>by cases a⟩
 |m::ms,B,w,e,d=>by
  rw [C2]at e;cases k:EN t c8 m (zH,B)with
  |inr r=>rw[k]at e;cases e
  |inl v=>
   rw [k]at e;have hv:=Xv k;rw[hv]at k e;obtain⟨hi,_,_,f⟩:=Xw hf b c k;obtain⟨g,i,j⟩:=g6 hf b c ms v.2 w e f;refine⟨g,i,λm' a=>?_⟩;rcases List.mem_cons.1 a with rfl|a
   .exact hi
   .exact j m' a
theorem Zb(hf:Ao t)(d:∀r∈c8,DN r){ms:List DC}(e:(LU t s c8 ms).2=0):C9 t s c8=0/\ms.length<=30/\C2 (EN t c8) ms (zH,zH)=.inl (zH,(LU t s c8 ms).1)/\(Bc t (LU t s c8 ms).1).2=0/\∀m∈ms,0<=m.d4/\m.d4<c8.length:=by
 have a:C9 t s c8=0:=Classical.byContradiction λh=>by
  unfold LU at e;rw[Ne h]at e;exact h e
 have c:¬30<(ms.length:Int):=λh=>by
  unfold LU at e;rw[QQ (by simp[a]),Ne h]at e;cases e
 have hv:=(Pj (JP a).2).1;have b:LU t s c8 ms=match C2 (EN t c8) ms (zH,zH)with
  |.inl x=>(x.2,0)|.inr r=>r:=by
  unfold LU;rw[QQ (by simp[a]),QQ c];rfl
 cases k:C2 (EN t c8) ms (zH,zH)with
 |inl w=>
  rw [k]at b;obtain⟨i,j,n⟩:=g6 hf d (Iz a) ms zH w k (Zo hv);rw[b];exact⟨a,U,by rw[<-i],j,n⟩
 |inr r=>
  exfalso;rw[k]at b;rw[b]at e;have:=(N9 (g:=EN t c8) (I:=λ_=>True) (R:=λr=>r.2≠0) (l:=ms) (s:=(zH,zH)) (λm _ x _=>⟨λ_ _=>trivial,λr h=>by
   unfold EN at h;split at h
   .cases h;show(6:Int)≠0;decide
   split at h
   next f=>cases h;exact f
   .cases h⟩) trivial).2 r k
  exact this e
theorem pj{m:DC}(e:∀r∈c8,B8 t s r=0)(f:0<=m.d4/\m.d4<c8.length)(h:RJ s l c8 m)(c:∀x,hasB l x=true->hasB [1,2,3] x=true):RJ s [1,2,3] c8 m:=by
 have key:∀{q a:Int->Bool}{n:Int},(∀i,q i=true->a i=true)->(FT q n).length<=(FT a n).length:=λ{q a n}h=>by
  unfold FT;have:∀L:Fp,(L.filter q).length<=(L.filter a).length:=λL=>by
   induction L with
   |nil=>simp|cons x L d=>
    rw [w_,w_];by_cases b:q x=true
    .rw[Ne b,Ne (h x b),a5,a5];omega
    .rw[QQ b];split
     .rw[a5];omega
     .exact d
  exact this _
 have g:(DX s (AA c8 m.d4) l).length<=(DX s (AA c8 m.d4) [1,2,3]).length:=key λi h=>by
  unfold Ok at h|-;rw[gR]at h|-;exact⟨h.1,c _ h.2⟩
 have j:(EH s (AA c8 m.d4) l).length<=(EH s (AA c8 m.d4) [1,2,3]).length:=key λi h=>by
  unfold Oj at h|-;rw[gR]at h|-;exact⟨h.1,c _ h.2⟩
 unfold RJ at h|-;omega
theorem uO(hf:Ao t)(c:C9 t s c8=0){h:AH}(hh:(Bc t h).2=0)(e:(L9 t s c8 h l).2=0):∀m∈(L9 t s c8 h l).1.Aao,RJ s l c8 m:=by
 obtain ⟨hv,hO⟩:=Du hf hh;unfold L9 at e|-;cases k:Hp t s c8 l 31 (FZ h) 0 with
 |inl v=>rw[k]at e;cases e
 |inr r=>
  rw [k]at e;dsimp only at e|-;by_cases b:r.2.1=0
  .rw[Ne b];exact(Z4 (Iz c) (λx=>∀m∈x.mN,RJ s l c8 m) (λx i y _ d _ _ _ f _ _ _ _ _ _ _ m a=>by
    rcases List.mem_append.1 a with a|a
    .exact d m a
    .obtain rfl:=List.mem_singleton.1 a;exact f) 31 _ 0 r k b (Ss hO.g) (λm a=>by cases a) l! l!).2.1
  .rw[QQ b]at e;exact absurd e b
def F4(s:Ak)(h:AH)(z:Int):AH:=⟨Gf h.bk (CZ s h.bk z),w! (CZ s h.bk z).az.length []⟩
variable{h:AH}{z:Int}
theorem Vb(hh:(Bc t h).2=0)(hO:Gg t h)(c:NC t s)(d:hasB [z] 2=false){b:Int}(e:b∈(CZ s h.bk z).bi):(AA h.bk.bi b).fb∈(CZ s h.bk z).az/\(AA h.bk.bi b).To∈(CZ s h.bk z).az:=by
 obtain ⟨a,f⟩:=Br.1 e;have:=Rz (l:=[z]) hh hO c (λh=>by rw[d]at h;cases h) b a (by rw[Ie];exact f);have hf:=(hO.g.fit _ (AG a.1 a.2)).2;rw[Ie,Ie]at this;exact⟨Br.2 ⟨hf.1,this.1⟩,Br.2 ⟨hf.2,this.2⟩⟩
theorem nw(hh:(Bc t h).2=0)(hO:Gg t h)(e:NC t s)(f:hasB [z] 2=false):D5 h.bk (CZ s h.bk z)=0:=by
 have a:∀(q:Int->Bool)(n:Nat),Lu (FT q n) n=0:=λq n=>by
  have g:(FT q n).Pairwise (·<·):=by
   unfold FT;refine List.Pairwise.filter _ ?_;rw[List.pairwise_map];exact List.Pairwise.imp (λh=>Int.ofNat_lt.2 h) List.pairwise_lt_range
  unfold Lu;rw[Bb.2]
  .rfl
  intro i b c;have:=(Br.1 (AG b c)).1;rw[QQ U,QQ];rintro⟨m,d⟩;have:=List.pairwise_iff_getElem.1 g (i-1).toNat i.toNat U U U;unfold AA at d;rw[w?,w?,x_ U,x_ U]at d;simp only[Option.getD_some]at d;omega
 unfold D5 Nn;rw[QQ (by simp[hO.ge]),show Lu (CZ s h.bk z).az h.bk.az.length=0 from a _ _,show Lu (CZ s h.bk z).bi h.bk.bi.length=0 from a _ _,QQ V,QQ V,Bb.2]
 .rfl
 intro i b c;obtain⟨j,k⟩:=Vb hh hO e f (AG b c);rw[Ag.2 j,Ag.2 k];rfl
theorem Vc(hf:Ao t)(w:C9 t s c8=0)(hh:(Bc t h).2=0)(x:hasB [z] 2=false):(Bc t (F4 s h z)).2=0/\If s (F4 s h z).bk [z]=false:=by
 obtain ⟨hv,hO⟩:=Du hf hh;have y:=Jc (JP w).2;obtain⟨pn,pe⟩:=Mk hh;have A:(F4 s h z).bk.az.length=(CZ s h.bk z).az.length:=by simp[F4,Gf]
 have le:(F4 s h z).bk.bi.length=(CZ s h.bk z).bi.length:=by simp[F4,Gf]
 have f:=G5 (SD s h.bk z) h.bk.az.length;have B:=G5 (Td s h.bk z) h.bk.bi.length;have H:=hO.g.cE;have I:=hO.g.c9;have f:(CZ s h.bk z).az.length<=40:=by unfold CZ;dsimp only;omega
 have B:(CZ s h.bk z).bi.length<=80:=by unfold CZ;dsimp only;omega
 have N:∀k:Int,0<=k->k<(CZ s h.bk z).az.length->∃i:Int,((0<=i/\i<h.bk.az.length)/\AA s.az (AA h.bk.az i)=z)/\AA (F4 s h z).bk.az k=AA h.bk.az i:=λk d f=>by
  obtain ⟨a,b⟩:=Br.1 (AG d f);exact⟨_,⟨a,of_decide_eq_true b⟩,Cu d f⟩
 have o:∀v∈(CZ s h.bk z).az,(0<=A1 (CZ s h.bk z).az v/\A1 (CZ s h.bk z).az v<(F4 s h z).bk.az.length)/\AA (F4 s h z).bk.az (A1 (CZ s h.bk z).az v)=AA h.bk.az v:=λv hv=>by
  obtain ⟨a,b,c,_⟩:=BP hv;refine⟨⟨a,U⟩,?_⟩;rw[show AA (F4 s h z).bk.az _=_ from Cu a b,c]
 have E:∀k:Int,0<=k->k<(CZ s h.bk z).bi.length->∃i:Int,((0<=i/\i<h.bk.bi.length)/\AA s.bi (AA h.bk.bi i).em=z)/\i∈(CZ s h.bk z).bi/\AA (F4 s h z).bk.bi k=⟨(AA h.bk.bi i).em,A1 (CZ s h.bk z).az (AA h.bk.bi i).fb,A1 (CZ s h.bk z).az (AA h.bk.bi i).To⟩:=λk d f=>by
  obtain ⟨a,b⟩:=Br.1 (AG d f);exact⟨_,⟨a,of_decide_eq_true b⟩,AG d f,Cu d f⟩
 have C:BW (F4 s h z).bk:=by
  refine ⟨U,U,λn m=>?_,λe he=>?_⟩
  .obtain⟨k,d,f,rfl⟩:=Ay m;obtain⟨i,hi,e⟩:=N k d U;rw[e];exact hO.g.kind _ (AG hi.1.1 hi.1.2)
  .obtain⟨k,d,f,rfl⟩:=Ay he;obtain⟨i,hi,u,e⟩:=E k d U;obtain⟨j,r⟩:=Vb hh hO y x u;rw[e];exact⟨(hO.g.fit _ (AG hi.1.1 hi.1.2)).1,(o _ j).1,(o _ r).1⟩
 refine ⟨U6 hv (HC C) (by rw[A];simp[F4]) (λk d f=>?_) λk d f=>?_,?_⟩
 .obtain⟨i,⟨⟨p,q⟩,_⟩,e⟩:=N k d U;have j:=pn i p q;have r:AA (F4 s h z).d6 k=[]:=TS (P:=λv:Fp=>v=[]) rfl (λv hv=>x! hv) k;rw[e,r];have D:(AA h.d6 i).length=0:=by
   have:=hO.row i p q
   rwa [U5 w]at this
  rwa [List.eq_nil_of_length_eq_zero D]at j
 .obtain⟨i,⟨⟨p,q⟩,_⟩,u,e⟩:=E k d U;have j:=pe i p q;obtain⟨F,G⟩:=Vb hh hO y x u;unfold HP DG at j|-;rw[e];dsimp only;rw[(o _ F).2,(o _ G).2];exact j
 .unfold If;rw[Bool.or_eq_false_iff,x?,x?];refine⟨λn m=>?_,λn m=>?_⟩
  .obtain⟨k,d,f,rfl⟩:=Ay m;obtain⟨i,hi,e⟩:=N k d U;rw[e,Ie,hi.2];simp
  .obtain⟨k,d,f,rfl⟩:=Ay m;obtain⟨i,hi,_,e⟩:=E k d U;rw[e,Ie];dsimp only;rw[hi.2];simp
theorem Zw(hf:Ao t)(b:C9 t s c8=0)(hh:(Bc t h).2=0)(d:z=1\/z=3):∃p,HH t s h z=some (F4 s h z,p,0):=by
 have c:hasB [z] 2=false:=by rcases d with rfl|rfl<;>decide
 have j:=(JP b).2;obtain⟨_,hO⟩:=Du hf hh;have n:=Sb hf b hh;have o:=nw hh hO (Jc j) c;have k:=qp (s:=s) hO.g z;have q:Ly t h (CZ s h.bk z)=some (F4 s h z,0):=by
  unfold Ly Qv slices_Clone_int;rw[RZ hf,bs,bs,QQ q!,bB ⟨k.1,k.2⟩,QQ j_,bs,QQ V];dsimp only;rw[BQ (λi=>AH.mk (Gf h.bk (CZ s h.bk z)) (w! i.toNat [])) U o? λi e f=>?_,bs,Int.toNat_natCast]
  .rfl
  have hv:=mJ hf b hh;have m:0<=AA (CZ s h.bk z).az i/\AA (CZ s h.bk z).az i<h.bk.az.length:=(Br.1 (AG e f)).1;rw[AD e f,bs,AD m.1 (by rw[hv,List.length_replicate];exact m.2),bs,
   show AA h.d6 _=[]from TS (P:=λv:Fp=>v=[]) rfl (λv a=>by rw[hv]at a;exact x! a) _,BL V,bs,AS a?,bs,show(i+1).toNat=i.toNat+1 by omega,List.replicate_succ']
 refine ⟨CZ s h.bk z,?_⟩;unfold HH O9;rw[Zx hf,bs,QQ j!,RZ hf,bs,bs,QQ q!,QQ (by rcases d with rfl|rfl<;>decide),qA n,bs,q,bs,QQ V]
end
end Go.Sf.Sc
