/- Plain lemmas: what the functions of the program and of the reference compute. -/
import Derived.Test.YtpagkickoiafkaaGreatP204
set_option linter.all false
set_option maxRecDepth 100000
namespace Go.Sf.Sc
open Go Go.Sf
def SE(g:ci)(a c:Int):Fp:=((Ni g a c).length:Int)::Ni g a c
theorem YU(g:ci)(a c:Int):(Ni g a c).length<=g.ca.length:=by
 unfold Ni;rw[(G8 _).length_eq,az];exact YT _ _ _ _
variable{g:ci}
theorem fI(e:BW g){a c:Int}:∀x∈SE g a c,Q3 x:=by
 intro x d;have:=e.d7;have h:=YU g a c;unfold Q3;rcases List.mem_cons.1 d with rfl|d
 .omega
 .unfold Ni at d;rw[(G8 _).mem_iff,List.mem_map]at d;obtain⟨i,hi,rfl⟩:=d;obtain⟨f,_⟩:=Kd.1 hi;have:=(e.fit _ (AG f.1 f.2)).1;unfold QJ;omega
theorem X7(j:BW g)(a c:Int):∃L,DX g a c=some L/\VX g a c g.ca.length L/\GY g L=some (SE g a c):=by
 obtain ⟨L,e,h⟩:=VE j.d7 a c;refine⟨L,e,h,?_⟩;have l:L.length<=80:=by
  rw [h.perm.length_eq];have:=YT g a c g.ca.length;have:=j.d7;omega
 unfold GY;rw[BR (λi=>(L.length:Int)::(L.take i.toNat).map (QJ g)) U l? λi d f=>?_,bs,Int.toNat_natCast,List.take_length]
 .unfold SE;rw[<-h.ty,az]
 .have k:=(Kd.1 (h.perm.mem_iff.1 (AG d f))).1;rw[AD d f,bs,AD k.1 k.2,bs,AU a!,Cb d f,List.map_append];rfl
variable{a b:ci}
theorem rF(c:BW a)(d:BW b)(i j k m:Int):∃v,Er (SE a i j) (SE b k m)=some v/\decide (v=0)=decide (Ni a i j=Ni b k m):=by
 have l1:=YU a i j;have l2:=YU b k m;have:=c.d7;have:=d.d7;obtain⟨v,e,h⟩:=R0 (l:=SE a i j) (m:=SE b k m) (by unfold SE;rw[ae];omega) (by unfold SE;rw[ae];omega) (fI c) (fI d);refine⟨v,e,?_⟩;rw[Bool.eq_iff_iff,ml,ml,h];unfold SE;constructor
 .intro h;injection h
 .intro h;rw[h]
theorem cJ{m:cE}(h:EY a b m)(D:a.ca.length=b.ca.length)(ga:BW a){i j:Int}(v:0<=i)(E:i<a.bq.length)(w:0<=j)(F:j<a.bq.length):Ni a i j=Ni b (AA m.bq i) (AA m.bq j):=by
 unfold Ni;refine List.Perm.eq_of_pairwise (le:=(·<=·)) (λx y _ _ f l=>Int.le_antisymm f l) (JO _) (JO _) ((G8 _).trans (List.Perm.trans ?_ (G8 _).symm));have nl:=h.nl;have el:=h.el;have z:(RA b (AA m.bq i) (AA m.bq j) b.ca.length).Perm ((RA a i j a.ca.length).map (AA m.ca)):=by
  refine (List.perm_ext_iff_of_nodup ((Li _).filter _) ?_).2 λk=>?_
  .unfold List.Nodup;rw[List.pairwise_map];refine List.Pairwise.imp_of_mem (λ{x y}o c r e=>r ?_) ((Li _).filter _);have o:=(Kd.1 o).1;have c:=(Kd.1 c).1;have A:=Df h.Aa6 o.1 U;have G:=Df h.Aa6 c.1 U;rw[e]at A;omega
  .show k∈RA b (AA m.bq i) (AA m.bq j) b.ca.length↔_;rw[Kd,List.mem_map];constructor
   .rintro⟨u,f,l⟩;have q:=fP h.Aa6 (n:=b.ca.length) λx o=>by
     obtain ⟨y,d,p,rfl⟩:=A9 o;exact(h.edge y d U).1
    rw [decide_eq_true U]at q;unfold ip at q;rw[Bool.not_eq_true',BY]at q;obtain⟨y,d,p,rfl⟩:=A9 (Aq.1 (by simpa using q k u.1 u.2));have c:=(h.edge y d U).2;have hf:=(ga.fit _ (AG d (show y<(a.ca.length:Int)by omega))).2;rw[c]at f l;dsimp only at f l;have s:=Df h.nnd hf.1.1 U;have t:=Df h.nnd hf.2.1 U;rw[f,Df h.nnd v U]at s;rw[l,Df h.nnd w U]at t;exact⟨y,Kd.2 ⟨⟨d,U⟩,s.symm,t.symm⟩,rfl⟩
   .rintro⟨y,c,rfl⟩;obtain⟨⟨d,p⟩,f,l⟩:=Kd.1 c;obtain⟨B,C⟩:=h.edge y d p;rw[C,f,l];exact⟨B,rfl,rfl⟩
 refine List.Perm.trans ?_ (z.map _).symm;rw[List.map_map];refine List.Perm.of_eq (List.map_congr_left λy c=>?_);obtain⟨⟨d,p⟩,_⟩:=Kd.1 c;show QJ a y=QJ b (AA m.ca y);unfold QJ;rw[(h.edge y d p).2]
def YP(a b:ci)(l:Fp):Prop:=(∀x∈l,0<=x/\x<b.bq.length)/\∀j k:Int,0<=j->j<l.length->0<=k->k<l.length->Ni a j k=Ni b (AA l j) (AA l k)
theorem gZ(l:Fp)(x:Int):Pw l x=some (hasB l x):=by
 unfold Pw;rw[BT (λi=>decide (AA l i=x)) true λi c d _=>?_]
 .have:gp (λi=>decide (AA l i=x)) 0 (l.length:Int)=hasB l x:=by
   rw [Bool.eq_iff_iff,C3,Aq];constructor
   .rintro⟨i,c,d,e⟩;exact of_decide_eq_true e▸AG c d
   .intro h;obtain⟨i,c,d,e⟩:=A9 h;exact⟨i,c,d,decide_eq_true e⟩
  rw [this];cases hasB l x<;>rfl
 .rw[AD c d,bs];cases decide (AA l i=x)<;>rfl
end Go.Sf.Sc
