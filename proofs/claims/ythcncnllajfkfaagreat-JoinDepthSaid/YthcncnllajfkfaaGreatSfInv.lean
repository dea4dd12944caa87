/- The invariant between an environment of the pure language and a frame with memory. -/
import Derived.Test.YthcncnllajfkfaaGreatSfSem
import Derived.Laws.AppendOwn
set_option linter.all false
open Option renaming some->Y,none->W
open Bool renaming true->X
open Nat renaming le_trans->w_,lt_of_lt_of_le->w!,lt_or_ge->w?
namespace Go.Sf
open Go.RowKit (Below)
def Ge(w:World)(size:Nat)(v:Value)(n:Nat)(xs:List Value)(z:Option (Nat×Nat)):Prop:=
 xs.length=n*size/\
 ((v=.slice W 0 0/\n=0/\z=W)\/
 ∃g cap cur e,v=.slice (Y ⟨g,0,W⟩) n cap/\w.heap[g]?=Y (.cells cur e (0,0))/\n<=cap/\cap<=maxLen/\cur.size=cap*size/\cur.toList.take (n*size)=xs/\z=Y (g,n*size))
def K3(w:World)(size:Nat)(v:Value)(n:Nat)(xs:List Value)(z:Option (Nat×Nat)):Prop:=
 ∃z0,Ge w size v n xs z0/\z=z0.map λp=>(p.1,0)
def CD(w:World)(F:Nat->Nat->Prop)(z:Option (Nat×Nat)):TV->Value->Prop
 |.list n es,v=>∃xs,Ge w n v es.length xs z/\AQ w F (es.flatMap TV.cells) xs/\(∀e∈es,e.cells.length=n)/\∀x∈xs,x.oneCell'=X|_,_=>False
abbrev I5:=Nat->Nat->Option (Nat×Nat)
def SD(w:World)(F:Nat->Nat->Prop)(z:Option (Nat×Nat))(n:Nat)(es:Fq)(v:Value):Prop:=
 ∃xs,K3 w n v es.length xs z/\AQ w F (es.flatMap TV.cells) xs/\(∀e∈es,e.cells.length=n)/\∀x∈xs,x.oneCell'=X
def F8(w:World)(F:Nat->Nat->Prop)(ρ:I5)(z:Option (Nat×Nat))(es:Fq)(v:Value):Prop:=
 ∃xs,K3 w 1 v es.length xs z/\(∀x∈xs,x.oneCell'=X)/\∀(j:Nat)(e:TV),es[j]?=Y e->∃g x n fs,z=Y (g,0)/\xs[j]?=Y x/\e=.list n fs/\SD w F (ρ g j) n fs x
def Et(w:World)(F:Nat->Nat->Prop)(ρ:I5)(z:Option (Nat×Nat)):TV->Value->Prop
 |.xl n es,v=>∃xs,K3 w n v es.length xs z/\AQ w F (es.flatMap TV.cells) xs/\(∀e∈es,e.cells.length=n)/\∀x∈xs,x.oneCell'=X|.xn es,v=>F8 w F ρ z es v|t,v=>CD w F z t v
variable{ρ:I5}{t:TV}{v:Value}
theorem CD.c{w:World}{F:Nat->Nat->Prop}{z:Option (Nat×Nat)}(h:CD w F z t v):Et w F ρ z t v:=by
 cases t<;>first|exact h|(simp[CD]at h)
def BW(w:World)(F:Nat->Nat->Prop)(ρ:I5)(z:Option (Nat×Nat))(c:AR)(v:Value):Prop:=
 match c with
 |⟨X,t⟩=>Et w F ρ z t v|⟨false,t⟩=>A1 w F t v/\v.oneCell'=X
abbrev Bi:=Nat->Option Nat->Option (Nat×Nat)
def x7(a:Act)(G:Bi):I5:=λg j=>G (a.tmps.size+g) (Y j)
def AW(base:Nat)(F0:Nat->Nat->Prop)(G:Bi)(b o:Nat):Prop:=(b<base/\F0 b o)\/∃s i lo,G s i=Y (b,lo)/\lo<=o
def slot(a:Act)(s:Nat):Value:=a.tmps.getD s undef
def XV(a:Act)(w:World)(q:Nat)(i:Option Nat)(v:Value):Prop:=
 match i with
 |none=>v=slot a q|some k=>∃b c θ,slot a q=.pointer (Y ⟨b,0,W⟩)/\w.heap[b]?=Y (.cells c θ (0,0))/\c[k]?=Y v
def NK.at(w:World)(x:Value):NK->Value->Prop
 |.hd,v=>v=x|.el j,v=>∃g len cap,x=.slice (Y ⟨g,0,W⟩) len cap/\v=.pointer (Y ⟨g,j,W⟩)|.rw j,v=>∃g len cap,x=.slice (Y ⟨g,0,W⟩) len cap/\w.cell? ⟨g,j,W⟩=Y v|.rp j p,v=>∃g len cap,x=.slice (Y ⟨g,0,W⟩) len cap/\∃r len' cap',w.cell? ⟨g,j,W⟩=Y (.slice (Y ⟨r,0,W⟩) len' cap')/\v=.pointer (Y ⟨r,p,W⟩)
def NH(a:Act)(w:World)(q i:Nat)(k:NK)(v:Value):Prop:=
 ∃b c θ x,slot a q=.pointer (Y ⟨b,0,W⟩)/\w.heap[b]?=Y (.cells c θ (0,0))/\c[i]?=Y x/\k.at w x v
def FC(k:Int×Int):Value:=.agg #[.int .i64 k.1,.int .i64 k.2]
def X3(w:World)(b:Nat)(kvs:Bk):Prop:=
 ∃es clock,w.heap[b]?=Y (.map es clock)/\es.toList.map (λe=>(e.key,e.val))=kvs.map (λp=>(FC p.1,Value.int .i64 p.2))/\es.toList.Pairwise (λx y=>x.born<y.born)/\∀e∈es.toList,e.born<clock
def mM(w:World)(r b:Nat)(last:Option ((Int×Int)×Int))(todo:Bk):Prop:=
 ∃(es:Array MapEntry)(clock since c0:Nat)(seen:Array Nat),w.heap[b]?=Y (.map es clock)/\w.heap[r]?=Y (.mapIter (Y b) since seen c0)/\es.toList.Pairwise (λx y=>x.born<y.born)/\(∀e∈es.toList,e.born<since)/\since<=c0/\since<=clock/\
  (∀p,last=Y p->∃(seen':Array Nat)(e:MapEntry),seen=seen'.push e.born/\e∈es.toList/\c0=clock/\e.key=FC p.1/\e.val=.int .i64 p.2)/\
  ((es.toList.filter λe=>!seen.contains e.born).map (λe=>(e.key,e.val))).Perm (todo.map (λp=>(FC p.1,Value.int .i64 p.2)))
def WG(w:World)(F:Nat->Nat->Prop)(z z2:Option (Nat×Nat)):MX->Value->Prop
 |.mp b kvs,v=>v=.map (Y b)/\z=Y (b,0)/\X3 w b kvs|.tm b kvs ts,v=>∃vs,v=.tuple (Value.map (Y b)::vs).toArray/\z=Y (b,0)/\X3 w b kvs/\AQ w F ts vs|.mi last todo,v=>∃r b,v=.pointer (Y ⟨r,0,W⟩)/\z=Y (r,0)/\z2=Y (b,0)/\mM w r b last todo
def AN(a:Act)(w:World)(F:Nat->Nat->Prop)(G:Bi)(O:AB)(s:Nat):EV->Value->Prop
 |.undef,_=>True|.sk,v=>v=undef|.tv t,v=>A1 w F t v|.ow t,v=>CD w F (G s W) t v|.bx cs,v=>∃b c θ,v=.pointer (Y ⟨b,0,W⟩)/\w.heap[b]?=Y (.cells c θ (0,0))/\c.size=cs.length/\G s W=Y (b,0)/\∀(i:Nat)(d:AR),cs[i]?=Y d->∃x,c[i]?=Y x/\BW w F (x7 a G) (G s (Y i)) d x|.bp q off,v=>(∃cs,O.get q=.bx cs)->∃b,slot a q=.pointer (Y ⟨b,0,W⟩)/\v=.pointer (Y ⟨b,off,W⟩)|.tp ts,v=>∃vs,v=.tuple vs/\AQ w F ts vs.toList|.xo n es,v=>∃xs,K3 w n v es.length xs (G s W)/\AQ w F (es.flatMap TV.cells) xs/\(∀e∈es,e.cells.length=n)/\∀x∈xs,x.oneCell'=X|.oag cs,v=>∃vs,v=.agg vs/\vs.size=cs.length/\∀(i:Nat)(d:AR),cs[i]?=Y d->∃x,vs[i]?=Y x/\BW w F (x7 a G) (G s (Y i)) d x|.la q i,v=>(∃p,O.wi q i=Y p)->XV a w q i v|.lp q i c,v=>(∃p,O.wi q i=Y p)->∃g len cap,XV a w q i (.slice (Y ⟨g,0,W⟩) len cap)/\v=.pointer (Y ⟨g,c,W⟩)|.xn es,v=>F8 w F (x7 a G) (G s W) es v|.x1 n fs,v=>∃g cap x,v=.slice (Y ⟨g,0,W⟩) 1 cap/\1<=cap/\w.cell? ⟨g,0,W⟩=Y x/\¬F g 0/\x.oneCell'=X/\SD w F (G s W) n fs x|.nh q i k,v=>(∃es,O.nat q i=Y es)->NH a w q i k v|.mx m,v=>WG w F (G s W) (G s (Y 0)) m v
def ZD(w:World)(E:Nat->Nat->Prop):Prop:=VD w/\∀b o,E b o->gU<=b
structure W0 extends World where
 E:Nat->Nat->Prop
theorem Et.own{w:World}{F:Nat->Nat->Prop}{z:Option (Nat×Nat)}(h:Et w F ρ z t v)(f:t.AaN=false):CD w F z t v:=by
 cases t<;>first|exact h|(simp[TV.AaN]at f)
structure Hr(F0:Nat->Nat->Prop)(w0:W0)(w:World):Prop where
 os:w.os=w0.os
 tape:w.tape=w0.tape
 output:w.output=w0.output
 size:w0.heap.size<=w.heap.size
 block:∀k,k<w0.heap.size->(∀o,¬w0.E k o)->w.heap[k]?=w0.heap[k]?
 cell:∀b o u,¬w0.E b o->w0.cell? ⟨b,o,W⟩=Y u->w.cell? ⟨b,o,W⟩=Y u
 free:∀b o o',w0.E b o->¬F0 b o'
 tab:ZD w0.toWorld w0.E
theorem Hr.trans{F0:Nat->Nat->Prop}{w0:W0}{w w':World}(h:Hr F0 w0 w)(g:w'.os=w.os)(j:w'.tape=w.tape)(l:w'.output=w.output)(m:w.heap.size<=w'.heap.size)(r:∀k,k<w0.heap.size->(∀o,¬w0.E k o)->w'.heap[k]?=w.heap[k]?)(x:∀b o u,b<w0.heap.size->¬w0.E b o->w.cell? ⟨b,o,W⟩=Y u->w'.cell? ⟨b,o,W⟩=Y u):Hr F0 w0 w':=
 ⟨g.trans h.os,j.trans h.tape,l.trans h.output,w_ h.size m,λb hb he=>(r b hb he).trans (h.block b hb he),λb o u he f=>x b o u (World.block_lt_of_cell? _ ⟨b,o,W⟩ f) he (h.cell b o u he f),h.free,h.tab⟩
theorem Hr.now{F0:Nat->Nat->Prop}{w0:W0}{w:World}(h:Hr F0 w0 w):VD w:=
 h.tab.1.fl λb hb=>h.block b (w! hb h.tab.1.lt) λo e=>absurd (h.tab.2 b o e) U
theorem Hr.but{F0:Nat->Nat->Prop}{w0:W0}{w w':World}(h:Hr F0 w0 w)(f:w'.os=w.os)(g:w'.tape=w.tape)(j:w'.output=w.output)(l:w.heap.size<=w'.heap.size){Z:Nat->Prop}(m:∀b,Z b->w0.heap.size<=b\/∀o,w0.E b o)(r:∀k,k<w0.heap.size->¬Z k->w'.heap[k]?=w.heap[k]?):Hr F0 w0 w':=
 h.trans f g j l (λk x he=>r k x λz=>(m k z).elim (λe=>U) (λe=>he 0 (e 0))) (λb o u hb he y=>by
  grind [World.cell?_of_block])
theorem Hr.go{F0:Nat->Nat->Prop}{w0:W0}{w w':World}(h:Hr F0 w0 w)(k:Below w.heap.size w w'):Hr F0 w0 w':=
 h.trans k.os k.tape k.output k.size (λb hb _=>k.block b (w! hb h.size)) (λb o u hb _ f=>by rw[k.cell (p:=⟨b,o,W⟩) (w! hb h.size)];exact f)
structure AO(F0:Nat->Nat->Prop)(w0:W0)(O:AB)(a:Act)(w:World)(G:Bi):Prop where
 o3:∀s i s' i' b lo lo',G s i=Y (b,lo)->G s' i'=Y (b,lo')->s=s'/\i=i'
 lt:∀s i b lo,G s i=Y (b,lo)->b<w.heap.size/\(w0.heap.size<=b\/∀o,lo<=o->w0.E b o)
 below:Hr F0 w0 w
 defers:a.defers=[]
 dom:∀s,a.tmps.size<=s->O.get s=.undef
 slots:∀s,s<a.tmps.size->AN a w (AW w0.heap.size F0 G) G O s (O.get s) (slot a s)
 wf:∀s,(O.get s).WF
variable{s:Nat}{i:Option Nat}
theorem AO.low{F0:Nat->Nat->Prop}{w0:W0}{O:AB}{a:Act}{w:World}{G:Bi}(h:AO F0 w0 O a w G){b lo:Nat}(e:G s i=Y (b,lo)):gU<=b:=
 (h.lt _ _ _ _ e).2.elim (λk=>w_ h.below.tab.1.lt k) λk=>h.below.tab.2 b lo (k lo (az _))
def B9(F0:Nat->Nat->Prop)(w0:W0)(O:AB)(a:Act)(w:World):Prop:=∃G,AO F0 w0 O a w G
theorem AB.eb(k:Nat)(e:EV)(O:AB)(n:Nat):AB.get ((k,e)::O) n=if k=n then e else O.get n:=rfl
theorem AB.get_map_keep(O:AB):∀(live:QQ)(n:Nat),AB.get (live.map λs=>(s,O.get s)) n=if n∈live then O.get n else .undef
 |[],n=>by simp[AB.get]|s::live,n=>by
  simp [AB.get,AB.get_map_keep O live n]
  grind
theorem AB.AaC(O:AB)(live:QQ)(n:Nat):(O.fl live).get n=if n∈live then O.get n else .undef:=AB.get_map_keep O live n
variable{q:Nat}
theorem AB.Aaq{O env':AB}(h:env'.get q=O.get q):env'.wi q i=O.wi q i:=by
 cases i<;>simp[AB.wi,h]
theorem AB.AaM{O:AB}(h:O.get q=.undef):O.wi q i=W:=by
 cases i<;>simp[AB.wi,h]
variable{live:QQ}
theorem AB.xat_keep{O:AB}(h:∃p,(O.fl live).wi q i=Y p):∃p,O.wi q i=Y p:=by grind[AB.Aaq,AB.AaC,AB.AaM]
variable{n:Nat}
theorem AB.tg{O:AB}{q k:Nat}{es:Fq}(h:O.wi q (Y k)=Y (n,es)):∃cs,O.get q=.bx cs/\cs[k]?=Y ⟨X,.xl n es⟩:=by grind[AB.wi,tl]
theorem AB.x5{O:AB}{es:Fq}(h:O.wi q W=Y (n,es)):O.get q=.xo n es:=by grind[AB.wi,tl]
theorem AB.Aaz{O env':AB}{i:Nat}(h:env'.get q=O.get q):env'.nat q i=O.nat q i:=by
 simp [AB.nat,h]
theorem AB.nat_undef{O:AB}{i:Nat}(h:O.get q=.undef):O.nat q i=W:=by
 simp [AB.nat,h]
theorem AB.nat_keep{O:AB}{i:Nat}(h:∃p,(O.fl live).nat q i=Y p):∃p,O.nat q i=Y p:=by grind[AB.Aaz,AB.AaC,AB.nat_undef]
theorem AB.t2{O:AB}{q k:Nat}{es:Fq}(h:O.nat q k=Y es):∃cs,O.get q=.bx cs/\cs[k]?=Y ⟨X,.xn es⟩:=by grind[AB.nat,tl]
variable{b o:Nat}
theorem AW.mono{base:Nat}{F0:Nat->Nat->Prop}{G j:Bi}(h:∀s i b lo,j s i=Y (b,lo)->∃s' g f,G s' g=Y (b,f)/\f<=lo)(hf:AW base F0 j b o):AW base F0 G b o:=by
 rcases hf with hf|⟨s,i,lo,r,u⟩
 .exact .inl hf
 .obtain⟨s',g,f,l,m⟩:=h s i b lo r;exact .inr ⟨s',g,f,l,w_ m u⟩
theorem B9.fl{F0:Nat->Nat->Prop}{w0:W0}{O:AB}{a:Act}{w:World}(h:B9 F0 w0 O a w)(live:QQ):B9 F0 w0 (O.fl live) a w:=by
 obtain ⟨G,g⟩:=h;refine⟨G,g.o3,g.lt,g.below,g.defers,λs l=>?_,λs l=>?_,λs=>?_⟩
 .rw[AB.AaC,g.dom s l];split<;>rfl
 .have:=g.slots s l;rw[AB.AaC];split
  .cases he:O.get s with
   |bp q r=>
    rw [he]at this;simp only[AN]at this|-;rintro⟨cs,f⟩;rw[AB.AaC]at f;split at f
    .exact this ⟨cs,f⟩
    .cases f
   |undef=>trivial|sk=>rw[he]at this;exact this|tv t=>rw[he]at this;exact this|ow t=>rw[he]at this;exact this|bx cs=>rw[he]at this;exact this|tp u=>rw[he]at this;exact this|xo n es=>rw[he]at this;exact this|oag cs=>rw[he]at this;exact this|xn es=>rw[he]at this;exact this|x1 n x=>rw[he]at this;exact this|mx m=>rw[he]at this;exact this|nh q i k=>
    rw [he]at this;simp only[AN]at this|-;exact λj=>this (AB.nat_keep j)
   |la q i=>
    rw [he]at this;simp only[AN]at this|-;exact λj=>this (AB.xat_keep j)
   |lp q i c=>
    rw [he]at this;simp only[AN]at this|-;exact λj=>this (AB.xat_keep j)
  .trivial
 .rw[AB.AaC];split
  .exact g.wf s
  .trivial
section own
variable{w w':World}{F F':Nat->Nat->Prop}{z:Option (Nat×Nat)}
variable{size:Nat}{v:Value}{n:Nat}
theorem Ge.kept{xs:List Value}(h:Ge w size v n xs z)(l:∀b lo,z=Y (b,lo)->w'.heap[b]?=w.heap[b]?):Ge w' size v n xs z:=by
 refine ⟨h.1,?_⟩;rcases h.2 with f|⟨g,cap,j,e,m,r,u,x,y,A,B⟩
 .exact .inl f
 grind
theorem K3.kept{xs:List Value}(h:K3 w size v n xs z)(g:∀b lo,z=Y (b,lo)->w'.heap[b]?=w.heap[b]?):K3 w' size v n xs z:=by
 obtain ⟨l,m,f⟩:=h;exact⟨l,m.kept (λb lo j=>g b 0 (by rw[f,j];rfl)),f⟩
variable{t:TV}
theorem CD.kept(ha:Bt w w' F F')(h:CD w F z t v)(f:∀b lo,z=Y (b,lo)->w'.heap[b]?=w.heap[b]?):CD w' F' z t v:=by
 cases t<;>simp[CD]at h|-;obtain⟨xs,g,j,l⟩:=h;exact⟨xs,g.kept f,A7 ha _ _ j,l⟩
theorem SD.kept{es:Fq}(ha:Bt w w' F F')(h:SD w F z n es v)(f:∀b lo,z=Y (b,lo)->w'.heap[b]?=w.heap[b]?):SD w' F' z n es v:=by
 obtain ⟨xs,g,j,l⟩:=h;exact⟨xs,g.kept f,A7 ha _ _ j,l⟩
def BY(w w':World)(ρ:I5):Prop:=∀g j b lo,ρ g j=Y (b,lo)->w'.heap[b]?=w.heap[b]?
variable{ρ:I5}
theorem BY.rfl'{w:World}:BY w w ρ:=λ_ _ _ _ _=>rfl
theorem F8.kept{es:Fq}(ha:Bt w w' F F')(h:F8 w F ρ z es v)(f:∀b lo,z=Y (b,lo)->w'.heap[b]?=w.heap[b]?)(hr:BY w w' ρ):F8 w' F' ρ z es v:=by
 obtain ⟨xs,m,r,u⟩:=h;refine⟨xs,m.kept f,r,λj e l=>?_⟩;obtain⟨g,x,n,y,A,B,C,D⟩:=u j e l;exact⟨g,x,n,y,A,B,C,D.kept ha (λb lo hb=>hr g j b lo hb)⟩
def X6(w w':World)(ρ:I5)(z:Option (Nat×Nat)):Prop:=∀g lo j b lo',z=Y (g,lo)->ρ g j=Y (b,lo')->w'.heap[b]?=w.heap[b]?
theorem BY.spot{w w':World}{z:Option (Nat×Nat)}(h:BY w w' ρ):X6 w w' ρ z:=λg _ j b f _ hr=>h g j b f hr
theorem F8.Abt{es:Fq}(ha:Bt w w' F F')(h:F8 w F ρ z es v)(l:∀b lo,z=Y (b,lo)->w'.heap[b]?=w.heap[b]?)(hr:X6 w w' ρ z):F8 w' F' ρ z es v:=by
 obtain ⟨xs,r,u,y⟩:=h;refine⟨xs,r.kept l,u,λj e m=>?_⟩;obtain⟨g,x,n,A,f,B,C,D⟩:=y j e m;exact⟨g,x,n,A,f,B,C,D.kept ha (λb lo hb=>hr g 0 j b lo f hb)⟩
variable{ρ':I5}
theorem F8.x7{es:Fq}(h:F8 w F ρ z es v)(hr:∀g lo j,z=Y (g,lo)->ρ' g j=ρ g j):F8 w F ρ' z es v:=by
 obtain ⟨xs,f,l,r⟩:=h;refine⟨xs,f,l,λj e m=>?_⟩
 grind
variable{c:AR}
theorem BW.x7(h:BW w F ρ z c v)(hr:∀g lo j,z=Y (g,lo)->ρ' g j=ρ g j):BW w F ρ' z c v:=by
 obtain ⟨_|_,t⟩:=c
 .exact h
 .cases t<;>first|exact h|exact F8.x7 h hr
theorem Et.kept(ha:Bt w w' F F')(h:Et w F ρ z t v)(f:∀b lo,z=Y (b,lo)->w'.heap[b]?=w.heap[b]?)(hr:BY w w' ρ):Et w' F' ρ z t v:=by
 cases t<;>simp[Et]at h|- <;>first|exact CD.kept ha h f|exact F8.kept ha h f hr|skip
 obtain ⟨xs,g,j,l⟩:=h;exact⟨xs,g.kept f,A7 ha _ _ j,l⟩
theorem BW.kept(ha:Bt w w' F F')(h:BW w F ρ z c v)(f:∀b lo,z=Y (b,lo)->w'.heap[b]?=w.heap[b]?)(hr:BY w w' ρ):BW w' F' ρ z c v:=by
 obtain ⟨_|_,t⟩:=c
 .exact⟨CR ha _ _ h.1,h.2⟩
 .exact Et.kept ha h f hr
theorem BW.Abt(ha:Bt w w' F F')(h:BW w F ρ z c v)(f:∀b lo,z=Y (b,lo)->w'.heap[b]?=w.heap[b]?)(hr:X6 w w' ρ z):BW w' F' ρ z c v:=by
 obtain ⟨_|_,t⟩:=c
 .exact⟨CR ha _ _ h.1,h.2⟩
 .replace h:Et w F ρ z t v:=h;show Et w' F' ρ z t v;cases t<;>simp[Et]at h|- <;>first|exact CD.kept ha h f|exact F8.Abt ha h f hr|skip
  obtain ⟨xs,g,j,l⟩:=h;exact⟨xs,g.kept f,A7 ha _ _ j,l⟩
end own
variable{v:Value}
theorem WG.kept{w w':World}{F F':Nat->Nat->Prop}{z z2:Option (Nat×Nat)}{m:MX}(ha:Bt w w' F F')(h:WG w F z z2 m v)(l:∀b lo,z=Y (b,lo)->w'.heap[b]?=w.heap[b]?)(u:∀b lo,z2=Y (b,lo)->w'.heap[b]?=w.heap[b]?):WG w' F' z z2 m v:=by
 cases m with
 |mp b y=>
  obtain ⟨j,f,g⟩:=h;exact⟨j,f,by unfold X3;rw[l _ _ f];exact g⟩
 |tm b y B=>
  obtain ⟨vs,j,f,g,x⟩:=h;exact⟨vs,j,f,by unfold X3;rw[l _ _ f];exact g,A7 ha _ _ x⟩
 |mi last A=>
  obtain ⟨r,b,j,f,g,x⟩:=h;exact⟨r,b,j,f,g,by unfold mM;rw[l _ _ f,u _ _ g];exact x⟩
variable{s:Nat}{e:EV}
theorem AN.kept'{a a':Act}{w w':World}{F F':Nat->Nat->Prop}{G K:Bi}{O env':AB}
  (ha:Bt w w' F F')(r:∀i,K s i=G s i)(u:∀i b lo,G s i=Y (b,lo)->w'.heap[b]?=w.heap[b]?)
  (L:∀i g lo j,G s i=Y (g,lo)->x7 a' K g j=x7 a G g j)(hr:∀i,X6 w w' (x7 a G) (G s i))
  (M:∀q i k,e=.nh q i k->(∃p,env'.nat q i=Y p)->(∃p,O.nat q i=Y p)/\∀v,NH a w q i k v->NH a' w' q i k v)
  (N:∀q A,e=.bp q A->(∃cs,env'.get q=.bx cs)->(∃cs,O.get q=.bx cs)/\slot a' q=slot a q)
  (E:∀q i,(e=.la q i\/∃c,e=.lp q i c)->(∃p,env'.wi q i=Y p)->(∃p,O.wi q i=Y p)/\∀v,XV a w q i v->XV a' w' q i v)
  (h:AN a w F G O s e v):AN a' w' F' K env' s e v:=by
 cases e with
 |undef=>trivial|sk=>exact h|tv t=>exact CR ha t v h|ow t=>
  simp [AN]at h|-;rw[r];exact h.kept ha (λb lo=>u _ b lo)
 |bx cs=>
  simp only[AN]at h|-;obtain⟨b,c,θ,f,y,C,J,I⟩:=h;refine⟨b,c,θ,f,by rw[u _ _ _ J];exact y,C,by rw[r];exact J,λi d hd=>?_⟩;obtain⟨x,P,l⟩:=I i d hd;exact⟨x,P,by rw[r];exact(l.Abt ha (λb lo=>u _ b lo) (hr _)).x7 (λg lo j H=>L _ g lo j H)⟩
 |bp q A=>
  simp only[AN]at h|-;intro B;obtain⟨l,D⟩:=N q A rfl B;rw[D];exact h l
 |tp R=>
  simp [AN]at h|-;obtain⟨vs,f,y⟩:=h;exact⟨vs,f,A7 ha _ _ y⟩
 |xo n es=>
  simp [AN]at h|-;obtain⟨xs,f,y,C⟩:=h;rw[r];exact⟨xs,f.kept (λb lo=>u _ b lo),A7 ha _ _ y,C⟩
 |oag cs=>
  simp [AN]at h|-;obtain⟨vs,f,C,I⟩:=h;refine⟨vs,f,C,λi d hd=>?_⟩;obtain⟨x,P,l⟩:=I i d hd;exact⟨x,P,by rw[r];exact(l.Abt ha (λb lo=>u _ b lo) (hr _)).x7 (λg lo j H=>L _ g lo j H)⟩
 |xn es=>
  simp [AN]at h|-;rw[r];exact(h.Abt ha (λb lo=>u _ b lo) (hr _)).x7 (λg lo j H=>L _ g lo j H)
 |x1 n S=>
  simp only[AN]at h|-;obtain⟨g,cap,x,f,y,C,J,I,Q⟩:=h;rw[r];have:=ha g 0 x C J;exact⟨g,cap,x,f,y,this.1,this.2,I,Q.kept ha (λb lo=>u _ b lo)⟩
 |mx m=>
  simp [AN]at h|-;rw[r,r];exact h.kept ha (λb lo=>u _ b lo) (λb lo=>u _ b lo)
 |nh q i k=>
  simp only[AN]at h|-;intro B;obtain⟨l,D⟩:=M q i k rfl B;exact D _ (h l)
 |la q i=>
  simp only[AN]at h|-;intro B;obtain⟨l,D⟩:=E q i (.inl rfl) B;exact D _ (h l)
 |lp q i c=>
  simp only[AN]at h|-;intro B;obtain⟨l,D⟩:=E q i (.inr ⟨c,rfl⟩) B;obtain⟨g,len,cap,f,y⟩:=h l;exact⟨g,len,cap,D _ f,y⟩
theorem AN.kept{a a':Act}{w w':World}{F F':Nat->Nat->Prop}{G f:Bi}{O env':AB}
  (ha:Bt w w' F F')(x:∀i,f s i=G s i)(y:∀i b lo,G s i=Y (b,lo)->w'.heap[b]?=w.heap[b]?)
  (A:x7 a' f=x7 a G)(hr:BY w w' (x7 a G))
  (l:∀q i k,e=.nh q i k->(∃p,env'.nat q i=Y p)->(∃p,O.nat q i=Y p)/\∀v,NH a w q i k v->NH a' w' q i k v)
  (m:∀q u,e=.bp q u->(∃cs,env'.get q=.bx cs)->(∃cs,O.get q=.bx cs)/\slot a' q=slot a q)
  (r:∀q i,(e=.la q i\/∃c,e=.lp q i c)->(∃p,env'.wi q i=Y p)->(∃p,O.wi q i=Y p)/\∀v,XV a w q i v->XV a' w' q i v)
  (h:AN a w F G O s e v):AN a' w' F' f env' s e v:=
 AN.kept' ha x y (λ_ g _ j _=>by rw[A]) (λ_=>BY.spot hr) l m r h
variable{q:Nat}{i:Option Nat}
theorem AO.xv{F0:Nat->Nat->Prop}{w0:W0}{O:AB}{a a':Act}{w w':World}{G:Bi}(h:AO F0 w0 O a w G)(u:∃p,O.wi q i=Y p)(m:slot a' q=slot a q)(hb:∀b,G q W=Y (b,0)->w'.heap[b]?=w.heap[b]?):∀v,XV a w q i v->XV a' w' q i v:=by
 intro v hv;cases i with
 |none=>exact hv.trans m.symm|some k=>
  obtain ⟨⟨n,es⟩,x⟩:=u;obtain⟨cs,g,_⟩:=AB.tg x;obtain⟨b,c,θ,r,y,A⟩:=hv;have f:q<a.tmps.size:=by
   rcases w? q a.tmps.size with l|l
   .exact l
   .rw[h.dom q l]at g;cases g
  have hr:=h.slots q f;rw[g]at hr;obtain⟨C,c',D,j,E,_,B,_⟩:=hr;rw[r]at j;simp at j;subst j;exact⟨b,c,θ,by rw[m,r],by rw[hb b B];exact y,A⟩
theorem NK.at.kept{w w':World}{x:Value}{k:NK}(h:k.at w x v)(u:∀g len cap,x=.slice (Y ⟨g,0,W⟩) len cap->w'.heap[g]?=w.heap[g]?):k.at w' x v:=by
 have m:∀g len cap,x=.slice (Y ⟨g,0,W⟩) len cap->∀j,w'.cell? ⟨g,j,W⟩=w.cell? ⟨g,j,W⟩:=λg len cap e j=>World.cell?_of_block (w:=w) (w':=w') (a:=⟨g,j,W⟩) (u g len cap e);cases k with
 |hd=>exact h|el j=>exact h|rw j=>obtain⟨g,len,cap,e,h⟩:=h;exact⟨g,len,cap,e,by rw[m _ _ _ e];exact h⟩
 |rp j p=>obtain⟨g,len,cap,e,r,f,l,h,y⟩:=h;exact⟨g,len,cap,e,r,f,l,by rw[m _ _ _ e];exact h,y⟩
theorem NH.kept{a a':Act}{w w':World}{q i:Nat}{k:NK}(h:NH a w q i k v)(m:slot a' q=slot a q)(hb:∀b,slot a q=.pointer (Y ⟨b,0,W⟩)->w'.heap[b]?=w.heap[b]?)
  (r:∀b c θ g len cap,slot a q=.pointer (Y ⟨b,0,W⟩)->w.heap[b]?=Y (.cells c θ (0,0))->c[i]?=Y (.slice (Y ⟨g,0,W⟩) len cap)->w'.heap[g]?=w.heap[g]?):NH a' w' q i k v:=by
 obtain ⟨b,c,θ,x,f,j,l,u⟩:=h;exact⟨b,c,θ,x,by rw[m];exact f,by rw[hb b f];exact j,l,u.kept λg len cap e=>r b c θ g len cap f j (by rw[l,e])⟩
variable{ρ:I5}
theorem F8.nil_or{w:World}{F:Nat->Nat->Prop}{z:Option (Nat×Nat)}{es:Fq}{g len cap:Nat}(h:F8 w F ρ z es (.slice (Y ⟨g,0,W⟩) len cap)):z=Y (g,0):=by
 obtain ⟨xs,⟨m,j,r⟩,_⟩:=h;rcases j.2 with⟨e,_⟩|⟨u,f,l,e,x,_,_,_,_,_,y⟩
 .cases e
 grind
theorem AO.lts{F0:Nat->Nat->Prop}{w0:W0}{O:AB}{a:Act}{w:World}{G:Bi}(h:AO F0 w0 O a w G)(g:O.get q≠.undef):q<a.tmps.size:=by
 rcases w? q a.tmps.size with f|f
 .exact f
 .exact absurd (h.dom q f) g
theorem AO.nh{F0:Nat->Nat->Prop}{w0:W0}{O:AB}{a a':Act}{w w':World}{G:Bi}(h:AO F0 w0 O a w G){q i:Nat}{k:NK}(u:∃p,O.nat q i=Y p)(y:slot a' q=slot a q)(hb:∀j b,(j=W\/j=Y i)->G q j=Y (b,0)->w'.heap[b]?=w.heap[b]?):∀v,NH a w q i k v->NH a' w' q i k v:=by
 intro v hv;obtain⟨es,E⟩:=u;obtain⟨cs,m,H⟩:=AB.t2 E;have hr:=h.slots q (h.lts (by rw[m];simp));rw[m]at hr;obtain⟨K,c',L,f,r,_,M,I⟩:=hr;refine hv.kept y (λb A=>?_) (λb c θ g len cap B C D=>?_)
 .grind
 .rw[B]at f;simp at f;subst f;rw[C]at r;cases r;obtain⟨x,l,J⟩:=I i _ H;rw[D]at l;simp at l;subst l;exact hb (Y i) g (.inr rfl) (F8.nil_or J)
theorem AO.AbK{F0:Nat->Nat->Prop}{w0:W0}{O:AB}{a:Act}{w:World}{G:Bi}(h:AO F0 w0 O a w G)(u:s<a.tmps.size){b lo g j l f:Nat}(m:G s i=Y (b,lo))(r:x7 a G g j=Y (l,f)):l≠b:=by
 rintro rfl;have:=(h.o3 _ _ _ _ _ _ _ m r).1;omega
theorem OI{a a':Act}{G f:Bi}(g:a'.tmps.size=a.tmps.size)(h:∀s,a.tmps.size<=s->f s=G s):x7 a' f=x7 a G:=by grind[x7]
theorem C2(a:Act)(d:Nat)(v:Value)(h:d<a.tmps.size):slot (a.put (Y d) v) d=v:=by
 simp [slot,Act.put,Array.getD_eq_getD_getElem?,h]
theorem AZ(a:Act)(d s:Nat)(v:Value)(h:d≠s):slot (a.put (Y d) v) s=slot a s:=by
 simp [slot,Act.put,Array.getD_eq_getD_getElem?,Array.getElem?_setIfInBounds,h]
theorem Bu(a:Act)(d:Option Nat)(v:Value):(a.put d v).tmps.size=a.tmps.size:=by
 cases d<;>simp[Act.put]
theorem FK(a:Act)(d:Option Nat)(v:Value):(a.put d v).defers=a.defers:=by
 cases d<;>simp[Act.put]
def SC(a:Act)(d:Nat)(a':Act):Prop:=∃v,a'=a.put (Y d) v
structure MT(N:Nat)(p:Option (Nat×Value))(a:Act):Prop where
 size:a.tmps.size=N
 pin:∀i v,p=Y (i,v)->slot a i=v
variable{d:Nat}
theorem MT.put{N:Nat}{p:Option (Nat×Value)}{a a':Act}(h:MT N p a)(hd:∀i v,p=Y (i,v)->Y d≠Y i)(k:SC a d a'):MT N p a':=by
 obtain ⟨v,rfl⟩:=k;exact⟨by rw[Bu];exact h.size,λi u f=>by rw[AZ _ _ _ _ (λe=>hd i u f (by rw[e]))];exact h.pin i u f⟩
theorem Ra(w:World)(F:Nat->Nat->Prop):Bt w w F F:=λ_ _ _ f g=>⟨f,g⟩
variable{t:TV}
theorem AO.rem{F0:Nat->Nat->Prop}{w0:W0}{O env':AB}{a:Act}{w:World}{G:Bi}(h:AO F0 w0 O a w G)(s:Nat)(y:s<a.tmps.size)(hr:A1 w (AW w0.heap.size F0 G) t (slot a s))(u:t.WF)
  (l:∀n,env'.get n=O.get n\/(n=s/\env'.get n=.tv t)):AO F0 w0 env' a w G:=by
 refine ⟨h.o3,h.lt,h.below,h.defers,λq m=>?_,λq m=>?_,λq=>?_⟩
 .rcases l q with e|⟨rfl,_⟩
  .rw[e];exact h.dom q m
  .omega
 .rcases l q with e|⟨rfl,e⟩
  .rw[e];refine AN.kept (Ra _ _) (λ_=>rfl) (λ_ _ _ _=>rfl) rfl BY.rfl' (λr i k hr⟨p,g⟩=>?_) (λr x hr⟨cs,j⟩=>?_) (λr i hr⟨p,g⟩=>?_) (h.slots q m)
   .rcases l r with f|⟨_,f⟩
    .rw[AB.Aaz f]at g;exact⟨⟨p,g⟩,λ_ hv=>hv⟩
    .simp only[AB.nat,f]at g;cases g
   .rcases l r with f|⟨_,f⟩
    .rw[f]at j;exact⟨⟨cs,j⟩,rfl⟩
    .rw[f]at j;cases j
   .rcases l r with f|⟨_,f⟩
    .rw[AB.Aaq f]at g;exact⟨⟨p,g⟩,λ_ hv=>hv⟩
    .cases i<;>simp[AB.wi,f]at g<;>cases g
  .rw[e];exact hr
 .rcases l q with e|⟨_,e⟩
  .rw[e];exact h.wf q
  .rw[e];exact u
end Go.Sf
namespace Go.Sf
open Go.RowKit (Below)
theorem AB.Aad(d:Nat):∀(O:AB),O.ij d=X->∀s,(O.get s).ref≠Y d
 |[],_,s=>by simp[AB.get,EV.ref]|(k,e)::r,f,s=>by
  simp [AB.ij]at f;rw[AB.eb];split
  .grind[EV.noR]
  .exact AB.Aad d r f.2 s
theorem AB.Aa0(d:Nat)(O:AB)(h:O.ij d=X)(s:Nat):(∀i,O.get s≠.la d i)/\∀i c,O.get s≠.lp d i c:=
 ⟨λi e=>AB.Aad d O h s t!,λi c e=>AB.Aad d O h s t!⟩
theorem AB.AaT(d:Nat)(O:AB)(h:O.ij d=X)(s f:Nat):O.get s≠.bp d f:=
 λe=>AB.Aad d O h s t!
variable{d:Nat}{e:EV}{i:Option Nat}{p:Nat×Fq}
theorem AB.AaY{O:AB}(h:AB.wi ((d,e)::O) d i=Y p):(∃cs,e=.bx cs)\/(∃n es,e=.xo n es):=by
 obtain ⟨n,es⟩:=p;cases i with
 |none=>have:=AB.x5 h;rw[AB.eb,ac rfl]at this;exact .inr ⟨n,es,this⟩|some k=>obtain⟨cs,f,_⟩:=AB.tg h;rw[AB.eb,ac rfl]at f;exact .inl ⟨cs,f⟩
variable{q:Nat}
theorem AB.t1{O:AB}(f:∀cs,e≠.bx cs)(g:∀n es,e≠.xo n es)(h:AB.wi ((d,e)::O) q i=Y p):d≠q/\O.wi q i=Y p:=by grind[AB.AaY,AB.Aaq,AB.eb]
theorem AB.Aak{O:AB}(h:d≠q):AB.wi ((d,e)::O) q i=O.wi q i:=by grind[AB.Aaq,AB.eb]
variable{s:Nat}{k:Option Nat}
theorem AB.noXs_iff:∀{O:AB}{z:QQ},AB.AbX s k z O=X↔∀p,p∉z->(O.get p).noC s k=X
 |[],z=>by simp[AB.AbX,AB.get,EV.noC]|(q,e)::r,z=>by
  simp [AB.AbX,tn,AB.noXs_iff (O:=r)]
  grind [AB.eb]
theorem AB.Abc{O:AB}:O.noX s k=X↔∀p,(O.get p).noC s k=X:=
 AB.noXs_iff.trans ⟨λh p=>h p V,λh p _=>h p⟩
theorem AB.noX_all{s k:Nat}{O:AB}(f:O.noX s W=X):O.noX s (Y k)=X:=by
 rw [AB.Abc]at f|-;intro p;have h:=f p;generalize O.get p=e at h|-;cases e<;>try rfl
 .rename_i q i;cases i with
  |none=>rfl|some i=>simp[EV.noC]at h;simp[EV.noC,h]
 .rename_i q i c;cases i with
  |none=>rfl|some i=>simp[EV.noC]at h;simp[EV.noC,h]
 next q i c=>simp[EV.noC]at h;simp[EV.noC,h]
theorem AB.noX_ref{O:AB}(f:O.ij s=X):O.noX s W=X:=by
 rw [AB.Abc];intro p;have h:=AB.Aad s O f p;generalize O.get p=e at h|-;cases e<;>try rfl
 .rename_i q i;cases i with
  |none=>rfl|some i=>simp[EV.noC,bne_iff_ne];exact λe=>h t!
 .rename_i q i c;cases i with
  |none=>rfl|some i=>simp[EV.noC,bne_iff_ne];exact λe=>h t!
 next q i c=>simp[EV.noC,bne_iff_ne];exact λe=>h t!
theorem AB.noX_nh{O:AB}(f:O.noX s k=X)(p j:Nat)(g:k=W\/k=Y j)(c:NK):O.get p≠.nh s j c:=by grind[AB.Abc,EV.noC]
theorem AB.Abj(d:Nat)(O:AB)(h:O.ij d=X)(s:Nat):∀i c,O.get s≠.nh d i c:=
 λi c e=>AB.Aad d O h s t!
theorem AB.AaK{O:AB}{d i:Nat}{p:Fq}(h:AB.nat ((d,e)::O) d i=Y p):∃cs,e=.bx cs:=by grind[AB.t2,AB.eb]
theorem AB.Aac{O:AB}{d q i:Nat}{p:Fq}(f:∀cs,e≠.bx cs)(h:AB.nat ((d,e)::O) q i=Y p):d≠q/\O.nat q i=Y p:=by grind[AB.AaK,AB.Aaz,AB.eb]
theorem AB.Aan{O:AB}{d q i:Nat}(h:d≠q):AB.nat ((d,e)::O) q i=O.nat q i:=by grind[AB.Aaz,AB.eb]
theorem AB.noX_spec{O:AB}(f:O.noX s k=X)(p j:Nat)(g:k=W\/k=Y j):O.get p≠.la s (Y j)/\∀c,O.get p≠.lp s (Y j) c:=by grind[AB.Abc,EV.noC]
def Km(G:Bi)(d:Nat)(zd:Option Nat->Option (Nat×Nat)):Bi:=λs=>if s=d then zd else G s
theorem CM(G:Bi)(d:Nat)(f:Option Nat->Option (Nat×Nat)):Km G d f d=f:=by simp[Km]
theorem BZ(G:Bi)(d s:Nat)(f:Option Nat->Option (Nat×Nat))(h:s≠d):Km G d f s=G s:=by simp[Km,h]
section
variable{F0:Nat->Nat->Prop}{w0:W0}{O:AB}{a:Act}{w:World}{G:Bi}
theorem Ly{w':World}(hb:Below w.heap.size w w')(d:Nat)(l:Option Nat->Option (Nat×Nat))(u:∀i b lo,l i=Y (b,lo)->w.heap.size<=b):
  Bt w w' (AW w0.heap.size F0 G) (AW w0.heap.size F0 (Km G d l)):=by
 intro b o v m hf;have j:b<w.heap.size:=World.block_lt_of_cell? w ⟨b,o,W⟩ m;refine⟨by rw[hb.cell (p:=⟨b,o,W⟩) j];exact m,λg=>hf ?_⟩;rcases g with h|⟨s,i,lo,f,x⟩
 .exact .inl h
 .by_cases r:s=d
  .subst r;rw[CM]at f;have:=u i b lo f;omega
  .rw[BZ _ _ _ _ r]at f;exact .inr ⟨s,i,lo,f,x⟩
theorem AO.Aa5{w':World}(h:AO F0 w0 O a w G)(hb:Below w.heap.size w w'):BY w w' (x7 a G):=by
 intro g j b lo hr;exact hb.block b (h.lt _ _ _ _ hr).1
theorem AO.quiet{w':World}(h:AO F0 w0 O a w G)(hb:Below w.heap.size w w')(d:Nat)(hd:d<a.tmps.size)(e:EV)(v:Value)
  (C:Option Nat->Option (Nat×Nat))(J:∀i b lo,C i=Y (b,lo)->w.heap.size<=b/\b<w'.heap.size)(K:∀i E b lo l,C i=Y (b,lo)->C E=Y (b,l)->i=E)
  (D:(∃cs,e=.bx cs)\/(∃n es,e=.xo n es)->O.ij d=X)
  (I:AN (a.put (Y d) v) w' (AW w0.heap.size F0 (Km G d C)) (Km G d C) ((d,e)::O) d e v)(L:e.WF):
  AO F0 w0 ((d,e)::O) (a.put (Y d) v) w' (Km G d C):=by
 have N:=Ly (F0:=F0) (w0:=w0) (G:=G) hb d C (λi b lo h=>(J i b lo h).1);refine⟨?_,?_,h.below.go hb,g!,?_,?_,?_⟩
 .intro s i s' E b lo l m B;by_cases g:s=d<;>by_cases y:s'=d
  .subst g;subst y;rw[CM]at m B;exact⟨rfl,K i E b lo l m B⟩
  .subst g;rw[CM]at m;rw[BZ _ _ _ _ y]at B;have:=(J i b lo m).1;have:=(h.lt s' E b l B).1;omega
  .subst y;rw[CM]at B;rw[BZ _ _ _ _ g]at m;have:=(J E b l B).1;have:=(h.lt s i b lo m).1;omega
  .rw[BZ _ _ _ _ g]at m;rw[BZ _ _ _ _ y]at B;exact h.o3 s i s' E b lo l m B
 .intro s i b lo m;by_cases g:s=d
  .subst g;rw[CM]at m;have:=J i b lo m;exact⟨this.2,.inl (w_ h.below.size this.1)⟩
  .rw[BZ _ _ _ _ g]at m;have:=h.lt s i b lo m;exact⟨w! this.1 hb.size,this.2⟩
 .intro s g;rw[Bu]at g;rw[AB.eb,ae U];exact h.dom s g
 .intro s g;rw[Bu]at g;rw[AB.eb];by_cases A:d=s
  .subst A;rw[ac rfl,C2 _ _ _ hd];exact I
  .rw[ae A,AZ _ _ _ _ A];refine AN.kept N (λi=>by rw[BZ _ _ _ _ (λe=>A e.symm)]) (λi b lo Q=>hb.block b (h.lt s i b lo Q).1) (OI (Bu _ _ _) (λs g=>BZ _ _ _ _ U)) (h.Aa5 hb) (λq i k u⟨p,x⟩=>?_) (λq M u⟨cs,r⟩=>?_) (λq i u⟨p,x⟩=>?_) (h.slots s g)
   .by_cases f:d=q
    .subst f;exact absurd u (AB.Abj d O (D (.inl (AB.AaK x))) s i k)
    .rw[AB.Aan f]at x;exact⟨⟨p,x⟩,h.nh ⟨p,x⟩ (AZ _ _ _ _ f) (λj b _ H=>hb.block b (h.lt _ _ _ _ H).1)⟩
   .rw[AB.eb]at r;by_cases f:d=q
    .subst f;rw[ac rfl]at r;exact absurd u (AB.AaT d O (D (.inl ⟨cs,r⟩)) s M)
    .rw[ae f]at r;exact⟨⟨cs,r⟩,AZ _ _ _ _ f⟩
   .by_cases f:d=q
    .subst f;have P:=AB.Aa0 d O (D (AB.AaY x)) s;rcases u with u|⟨c,u⟩
     .exact absurd u (P.1 i)
     .exact absurd u (P.2 i c)
    .rw[AB.Aak f]at x;exact⟨⟨p,x⟩,h.xv ⟨p,x⟩ (AZ _ _ _ _ f) (λb H=>hb.block b (h.lt _ _ _ _ H).1)⟩
 .intro s;rw[AB.eb];split
  .exact L
  .exact h.wf s
theorem AO.tv{w':World}(h:AO F0 w0 O a w G)(hb:Below w.heap.size w w')(d:Nat)(hd:d<a.tmps.size)(t:TV)(v:Value)
  (f:A1 w' (AW w0.heap.size F0 (Km G d λ_=>W)) t v)(g:t.WF):
  B9 F0 w0 ((d,.tv t)::O) (a.put (Y d) v) w':=
 ⟨_,h.quiet hb d hd (.tv t) v (λ_=>W) V V V f g⟩
theorem AO.tv_same(h:AO F0 w0 O a w G)(d:Nat)(hd:d<a.tmps.size)(t:TV)(v:Value)
  (f:A1 w (AW w0.heap.size F0 G) t v)(g:t.WF):
  B9 F0 w0 ((d,.tv t)::O) (a.put (Y d) v) w:=
 h.tv (Below.refl _ _) d hd t v (CR (Ly (Below.refl _ _) d _ V) t v f) g
theorem AO.ow{w':World}(h:AO F0 w0 O a w G)(hb:Below w.heap.size w w')(d:Nat)(hd:d<a.tmps.size)(t:TV)(v:Value)(z:Option (Nat×Nat))
  (m:∀b lo,z=Y (b,lo)->w.heap.size<=b/\b<w'.heap.size)
  (f:CD w' (AW w0.heap.size F0 (Km G d λi=>if i=W then z else W)) z t v)(g:t.WF):
  B9 F0 w0 ((d,.ow t)::O) (a.put (Y d) v) w':=by
 refine ⟨_,h.quiet hb d hd (.ow t) v (λi=>if i=W then z else W) (λi b lo hi=>?_) (λi u b lo r j l=>?_) V ?_ g⟩
 .split at hi
  .exact m b lo hi
  .cases hi
 .split at j
  .split at l
   .simp_all
   .cases l
  .cases j
 .simp[AN,CM];exact f
end
section reads
variable{w:World}{F:Nat->Nat->Prop}
theorem W6(n:Nat):∀(es:Fq)(b o:Nat),(∀e∈es,e.cells.length=n)->Df w F (es.flatMap TV.cells) b o->JK w F n es b o
 |[],_,_,_,_=>trivial|e::es,b,o,f,h=>by
  rw [Ru];have he:e.cells.length=n:=f e V;rw[List.flatMap_cons]at h;refine⟨by have:=iJ h e.cells.length;simpa using this,he,W6 n es b (o+n) (λx g=>f x o!) ?_⟩;have:=Qu h e.cells.length
  grind
theorem Qi(n:Nat):∀(es:Fq),(∀e∈es,e.cells.length=n)->(es.flatMap TV.cells).length=es.length*n
 |[],_=>by simp|e::es,f=>by
  rw [List.flatMap_cons,b6,Qi n es (λx g=>f x o!),f e V,cE,Nat.add_mul,Nat.one_mul,Nat.add_comm]
variable{b o:Nat}
theorem TE{f:Fq}{xs:List Value}(h:AQ w F f xs)(j:∀x∈xs,x.oneCell'=X)(l:∀(i:Nat)(x:Value),xs[i]?=Y x->w.cell? ⟨b,o+i,W⟩=Y x/\¬F b (o+i)):Df w F f b o:=by
 rw [Jk];rw[Bs]at h;intro i t hi;have g:i<f.length:=by
  grind
 have m:xs[i]?=Y xs[i]:=List.getElem?_eq_getElem U
 grind
variable{size:Nat}{v:Value}{n:Nat}
theorem Ge.cell{xs:List Value}{z:Option (Nat×Nat)}{g cap:Nat}(h:Ge w size v n xs z)(hv:v=.slice (Y ⟨g,0,W⟩) n cap):∀(j:Nat)(u:Value),xs[j]?=Y u->w.cell? ⟨g,j,W⟩=Y u:=by
 intro j u y;rcases h.2 with⟨rfl,_⟩|⟨r,m,f,e,rfl,x,_,_,_,l,_⟩
 .cases hv
 .simp only[Value.slice.injEq,tl,Addr.mk.injEq]at hv;obtain⟨⟨rfl,_⟩,_⟩:=hv;rw[cell_of_row w r j f e (0,0) x]
  grind
variable{t:TV}
theorem CD.rep{z:Option (Nat×Nat)}(h:CD w F z t v)(u:∀b lo o,z=Y (b,lo)->o<lo->¬F b o):A1 w F t v:=by
 cases t<;>simp[CD]at h;rename_i n es;obtain⟨xs,m,A,B,C⟩:=h;simp[A1];rcases m.2 with⟨rfl,J,r⟩|⟨g,cap,D,e,rfl,K,j,E,H,l,r⟩
 .grind
 .refine⟨Y ⟨g,0,W⟩,cap,rfl,j,V,λI f=>?_⟩;simp at f;subst f;refine⟨.inr rfl,W6 n es g 0 B (TE A C λi x y=>?_)⟩;rw[Nat.zero_add];refine⟨m.cell rfl i x y,u g _ i r ?_⟩
  grind
variable{ρ:I5}
theorem Et.rep{z:Option (Nat×Nat)}(h:Et w F ρ z t v)(f:∀b lo o,z=Y (b,lo)->o<lo->¬F b o):A1 w F t v:=by
 cases t<;>first|exact CD.rep h f|skip
 all_goals
  obtain ⟨xs,⟨m,j,_⟩,_⟩:=h;simp[A1];rcases j.2 with⟨rfl,_⟩|⟨g,cap,l,e,rfl,_⟩<;>rfl
end reads
end Go.Sf
