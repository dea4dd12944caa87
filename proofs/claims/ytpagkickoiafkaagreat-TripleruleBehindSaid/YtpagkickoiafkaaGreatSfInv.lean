/- The invariant between an environment of the pure language and a frame with memory. -/
import Derived.Test.YtpagkickoiafkaaGreatSfSem
import Derived.Laws.AppendOwn
set_option linter.all false
open Option renaming some->Y,none->W
open Bool renaming true->X
open Nat renaming le_trans->v?,lt_of_lt_of_le->w_,lt_or_ge->w!
namespace Go.Sf
open Go.RowKit (Below)
def Fx(w:World)(size:Nat)(v:Value)(n:Nat)(xs:List Value)(z:Option (Nat×Nat)):Prop:=
 xs.length=n*size/\
 ((v=.slice W 0 0/\n=0/\z=W)\/
 ∃g cap cur e,v=.slice (Y ⟨g,0,W⟩) n cap/\w.heap[g]?=Y (.cells cur e (0,0))/\n<=cap/\cap<=maxLen/\cur.size=cap*size/\cur.toList.take (n*size)=xs/\z=Y (g,n*size))
def Js(w:World)(size:Nat)(v:Value)(n:Nat)(xs:List Value)(z:Option (Nat×Nat)):Prop:=
 ∃z0,Fx w size v n xs z0/\z=z0.map λp=>(p.1,0)
def Bo(w:World)(F:Nat->Nat->Prop)(z:Option (Nat×Nat)):TV->Value->Prop
 |.list n es,v=>∃xs,Fx w n v es.length xs z/\AT w F (es.flatMap TV.cells) xs/\(∀e∈es,e.cells.length=n)/\∀x∈xs,x.oneCell'=X|_,_=>False
abbrev Hc:=Nat->Nat->Option (Nat×Nat)
def Q6(w:World)(F:Nat->Nat->Prop)(z:Option (Nat×Nat))(n:Nat)(es:Fq)(v:Value):Prop:=
 ∃xs,Js w n v es.length xs z/\AT w F (es.flatMap TV.cells) xs/\(∀e∈es,e.cells.length=n)/\∀x∈xs,x.oneCell'=X
def FN(w:World)(F:Nat->Nat->Prop)(ρ:Hc)(z:Option (Nat×Nat))(es:Fq)(v:Value):Prop:=
 ∃xs,Js w 1 v es.length xs z/\(∀x∈xs,x.oneCell'=X)/\∀(j:Nat)(e:TV),es[j]?=Y e->∃g x n fs,z=Y (g,0)/\xs[j]?=Y x/\e=.list n fs/\Q6 w F (ρ g j) n fs x
def D5(w:World)(F:Nat->Nat->Prop)(ρ:Hc)(z:Option (Nat×Nat)):TV->Value->Prop
 |.xl n es,v=>∃xs,Js w n v es.length xs z/\AT w F (es.flatMap TV.cells) xs/\(∀e∈es,e.cells.length=n)/\∀x∈xs,x.oneCell'=X|.xn es,v=>FN w F ρ z es v|t,v=>Bo w F z t v
variable{ρ:Hc}{t:TV}{v:Value}
theorem Bo.c{w:World}{F:Nat->Nat->Prop}{z:Option (Nat×Nat)}(h:Bo w F z t v):D5 w F ρ z t v:=by
 cases t<;>first|exact h|(simp[Bo]at h)
def BE(w:World)(F:Nat->Nat->Prop)(ρ:Hc)(z:Option (Nat×Nat))(c:AQ)(v:Value):Prop:=
 match c with
 |⟨X,t⟩=>D5 w F ρ z t v|⟨false,t⟩=>Ap w F t v/\v.oneCell'=X
abbrev BV:=Nat->Option Nat->Option (Nat×Nat)
def po(a:Act)(G:BV):Hc:=λg j=>G (a.tmps.size+g) (Y j)
def AW(base:Nat)(F0:Nat->Nat->Prop)(G:BV)(b o:Nat):Prop:=(b<base/\F0 b o)\/∃s i lo,G s i=Y (b,lo)/\lo<=o
def slot(a:Act)(s:Nat):Value:=a.tmps.getD s undef
def XV(a:Act)(w:World)(q:Nat)(i:Option Nat)(v:Value):Prop:=
 match i with
 |none=>v=slot a q|some k=>∃b c θ,slot a q=.pointer (Y ⟨b,0,W⟩)/\w.heap[b]?=Y (.cells c θ (0,0))/\c[k]?=Y v
def NK.at(w:World)(x:Value):NK->Value->Prop
 |.hd,v=>v=x|.el j,v=>∃g len cap,x=.slice (Y ⟨g,0,W⟩) len cap/\v=.pointer (Y ⟨g,j,W⟩)|.rw j,v=>∃g len cap,x=.slice (Y ⟨g,0,W⟩) len cap/\w.cell? ⟨g,j,W⟩=Y v|.rp j p,v=>∃g len cap,x=.slice (Y ⟨g,0,W⟩) len cap/\∃r len' cap',w.cell? ⟨g,j,W⟩=Y (.slice (Y ⟨r,0,W⟩) len' cap')/\v=.pointer (Y ⟨r,p,W⟩)
def NH(a:Act)(w:World)(q i:Nat)(k:NK)(v:Value):Prop:=
 ∃b c θ x,slot a q=.pointer (Y ⟨b,0,W⟩)/\w.heap[b]?=Y (.cells c θ (0,0))/\c[i]?=Y x/\k.at w x v
def Ec(k:Int×Int):Value:=.agg #[.int .i64 k.1,.int .i64 k.2]
def W8(w:World)(b:Nat)(kvs:BZ):Prop:=
 ∃es clock,w.heap[b]?=Y (.map es clock)/\es.toList.map (λe=>(e.key,e.val))=kvs.map (λp=>(Ec p.1,Value.int .i64 p.2))/\es.toList.Pairwise (λx y=>x.born<y.born)/\∀e∈es.toList,e.born<clock
def kL(w:World)(r b:Nat)(last:Option ((Int×Int)×Int))(todo:BZ):Prop:=
 ∃(es:Array MapEntry)(clock since c0:Nat)(seen:Array Nat),w.heap[b]?=Y (.map es clock)/\w.heap[r]?=Y (.mapIter (Y b) since seen c0)/\es.toList.Pairwise (λx y=>x.born<y.born)/\(∀e∈es.toList,e.born<since)/\since<=c0/\since<=clock/\
  (∀p,last=Y p->∃(seen':Array Nat)(e:MapEntry),seen=seen'.push e.born/\e∈es.toList/\c0=clock/\e.key=Ec p.1/\e.val=.int .i64 p.2)/\
  ((es.toList.filter λe=>!seen.contains e.born).map (λe=>(e.key,e.val))).Perm (todo.map (λp=>(Ec p.1,Value.int .i64 p.2)))
def Va(w:World)(F:Nat->Nat->Prop)(z z2:Option (Nat×Nat)):MX->Value->Prop
 |.mp b kvs,v=>v=.map (Y b)/\z=Y (b,0)/\W8 w b kvs|.tm b kvs ts,v=>∃vs,v=.tuple (Value.map (Y b)::vs).toArray/\z=Y (b,0)/\W8 w b kvs/\AT w F ts vs|.mi last todo,v=>∃r b,v=.pointer (Y ⟨r,0,W⟩)/\z=Y (r,0)/\z2=Y (b,0)/\kL w r b last todo
def AK(a:Act)(w:World)(F:Nat->Nat->Prop)(G:BV)(O:AB)(s:Nat):EV->Value->Prop
 |.undef,_=>True|.sk,v=>v=undef|.tv t,v=>Ap w F t v|.ow t,v=>Bo w F (G s W) t v|.bx cs,v=>∃b c θ,v=.pointer (Y ⟨b,0,W⟩)/\w.heap[b]?=Y (.cells c θ (0,0))/\c.size=cs.length/\G s W=Y (b,0)/\∀(i:Nat)(d:AQ),cs[i]?=Y d->∃x,c[i]?=Y x/\BE w F (po a G) (G s (Y i)) d x|.bp q off,v=>(∃cs,O.get q=.bx cs)->∃b,slot a q=.pointer (Y ⟨b,0,W⟩)/\v=.pointer (Y ⟨b,off,W⟩)|.tp ts,v=>∃vs,v=.tuple vs/\AT w F ts vs.toList|.xo n es,v=>∃xs,Js w n v es.length xs (G s W)/\AT w F (es.flatMap TV.cells) xs/\(∀e∈es,e.cells.length=n)/\∀x∈xs,x.oneCell'=X|.vS cs,v=>∃vs,v=.agg vs/\vs.size=cs.length/\∀(i:Nat)(d:AQ),cs[i]?=Y d->∃x,vs[i]?=Y x/\BE w F (po a G) (G s (Y i)) d x|.la q i,v=>(∃p,O.ln q i=Y p)->XV a w q i v|.lp q i c,v=>(∃p,O.ln q i=Y p)->∃g len cap,XV a w q i (.slice (Y ⟨g,0,W⟩) len cap)/\v=.pointer (Y ⟨g,c,W⟩)|.xn es,v=>FN w F (po a G) (G s W) es v|.x1 n fs,v=>∃g cap x,v=.slice (Y ⟨g,0,W⟩) 1 cap/\1<=cap/\w.cell? ⟨g,0,W⟩=Y x/\¬F g 0/\x.oneCell'=X/\Q6 w F (G s W) n fs x|.nh q i k,v=>(∃es,O.nat q i=Y es)->NH a w q i k v|.mx m,v=>Va w F (G s W) (G s (Y 0)) m v
def YS(w:World)(E:Nat->Nat->Prop):Prop:=UQ w/\∀b o,E b o->dm<=b
structure W0 extends World where
 E:Nat->Nat->Prop
theorem D5.own{w:World}{F:Nat->Nat->Prop}{z:Option (Nat×Nat)}(h:D5 w F ρ z t v)(f:t.Aai=false):Bo w F z t v:=by
 cases t<;>first|exact h|(simp[TV.Aai]at f)
structure Gr(F0:Nat->Nat->Prop)(w0:W0)(w:World):Prop where
 os:w.os=w0.os
 tape:w.tape=w0.tape
 output:w.output=w0.output
 size:w0.heap.size<=w.heap.size
 block:∀k,k<w0.heap.size->(∀o,¬w0.E k o)->w.heap[k]?=w0.heap[k]?
 cell:∀b o u,¬w0.E b o->w0.cell? ⟨b,o,W⟩=Y u->w.cell? ⟨b,o,W⟩=Y u
 free:∀b o o',w0.E b o->¬F0 b o'
 tab:YS w0.toWorld w0.E
theorem Gr.trans{F0:Nat->Nat->Prop}{w0:W0}{w w':World}(h:Gr F0 w0 w)(j:w'.os=w.os)(l:w'.tape=w.tape)(m:w'.output=w.output)(r:w.heap.size<=w'.heap.size)(x:∀k,k<w0.heap.size->(∀o,¬w0.E k o)->w'.heap[k]?=w.heap[k]?)(y:∀b o u,b<w0.heap.size->¬w0.E b o->w.cell? ⟨b,o,W⟩=Y u->w'.cell? ⟨b,o,W⟩=Y u):Gr F0 w0 w':=
 ⟨j.trans h.os,l.trans h.tape,m.trans h.output,v? h.size r,λb f he=>(x b f he).trans (h.block b f he),λb o u he g=>y b o u (World.block_lt_of_cell? _ ⟨b,o,W⟩ g) he (h.cell b o u he g),h.free,h.tab⟩
theorem Gr.now{F0:Nat->Nat->Prop}{w0:W0}{w:World}(h:Gr F0 w0 w):UQ w:=
 h.tab.1.em λb f=>h.block b (w_ f h.tab.1.lt) λo e=>absurd (h.tab.2 b o e) U
theorem Gr.but{F0:Nat->Nat->Prop}{w0:W0}{w w':World}(h:Gr F0 w0 w)(f:w'.os=w.os)(g:w'.tape=w.tape)(j:w'.output=w.output)(l:w.heap.size<=w'.heap.size){Z:Nat->Prop}(m:∀b,Z b->w0.heap.size<=b\/∀o,w0.E b o)(r:∀k,k<w0.heap.size->¬Z k->w'.heap[k]?=w.heap[k]?):Gr F0 w0 w':=
 h.trans f g j l (λk x he=>r k x λz=>(m k z).elim (λe=>U) (λe=>he 0 (e 0))) (λb o u y he A=>by
  grind [World.cell?_of_block])
theorem Gr.go{F0:Nat->Nat->Prop}{w0:W0}{w w':World}(h:Gr F0 w0 w)(k:Below w.heap.size w w'):Gr F0 w0 w':=
 h.trans k.os k.tape k.output k.size (λb f _=>k.block b (w_ f h.size)) (λb o u f _ g=>by rw[k.cell (p:=⟨b,o,W⟩) (w_ f h.size)];exact g)
structure AR(F0:Nat->Nat->Prop)(w0:W0)(O:AB)(a:Act)(w:World)(G:BV):Prop where
 gB:∀s i s' i' b lo lo',G s i=Y (b,lo)->G s' i'=Y (b,lo')->s=s'/\i=i'
 lt:∀s i b lo,G s i=Y (b,lo)->b<w.heap.size/\(w0.heap.size<=b\/∀o,lo<=o->w0.E b o)
 below:Gr F0 w0 w
 defers:a.defers=[]
 dom:∀s,a.tmps.size<=s->O.get s=.undef
 slots:∀s,s<a.tmps.size->AK a w (AW w0.heap.size F0 G) G O s (O.get s) (slot a s)
 wf:∀s,(O.get s).WF
variable{s:Nat}{i:Option Nat}
theorem AR.low{F0:Nat->Nat->Prop}{w0:W0}{O:AB}{a:Act}{w:World}{G:BV}(h:AR F0 w0 O a w G){b lo:Nat}(e:G s i=Y (b,lo)):dm<=b:=
 (h.lt _ _ _ _ e).2.elim (λk=>v? h.below.tab.1.lt k) λk=>h.below.tab.2 b lo (k lo (aN _))
def Bs(F0:Nat->Nat->Prop)(w0:W0)(O:AB)(a:Act)(w:World):Prop:=∃G,AR F0 w0 O a w G
theorem AB.d3(k:Nat)(e:EV)(O:AB)(n:Nat):AB.get ((k,e)::O) n=if k=n then e else O.get n:=rfl
theorem AB.get_map_keep(O:AB):∀(live:I2)(n:Nat),AB.get (live.map λs=>(s,O.get s)) n=if n∈live then O.get n else .undef
 |[],n=>by simp[AB.get]|s::live,n=>by
  simp [AB.get,AB.get_map_keep O live n]
  grind
theorem AB.Aad(O:AB)(live:I2)(n:Nat):(O.em live).get n=if n∈live then O.get n else .undef:=AB.get_map_keep O live n
variable{q:Nat}
theorem AB.wm{O env':AB}(h:env'.get q=O.get q):env'.ln q i=O.ln q i:=by
 cases i<;>simp[AB.ln,h]
theorem AB.Aaq{O:AB}(h:O.get q=.undef):O.ln q i=W:=by
 cases i<;>simp[AB.ln,h]
variable{live:I2}
theorem AB.xat_keep{O:AB}(h:∃p,(O.em live).ln q i=Y p):∃p,O.ln q i=Y p:=by grind[AB.wm,AB.Aad,AB.Aaq]
variable{n:Nat}
theorem AB.l3{O:AB}{q k:Nat}{es:Fq}(h:O.ln q (Y k)=Y (n,es)):∃cs,O.get q=.bx cs/\cs[k]?=Y ⟨X,.xl n es⟩:=by grind[AB.ln,kx]
theorem AB.o4{O:AB}{es:Fq}(h:O.ln q W=Y (n,es)):O.get q=.xo n es:=by grind[AB.ln,kx]
theorem AB.Aaa{O env':AB}{i:Nat}(h:env'.get q=O.get q):env'.nat q i=O.nat q i:=by
 simp [AB.nat,h]
theorem AB.nat_undef{O:AB}{i:Nat}(h:O.get q=.undef):O.nat q i=W:=by
 simp [AB.nat,h]
theorem AB.nat_keep{O:AB}{i:Nat}(h:∃p,(O.em live).nat q i=Y p):∃p,O.nat q i=Y p:=by grind[AB.Aaa,AB.Aad,AB.nat_undef]
theorem AB.og{O:AB}{q k:Nat}{es:Fq}(h:O.nat q k=Y es):∃cs,O.get q=.bx cs/\cs[k]?=Y ⟨X,.xn es⟩:=by grind[AB.nat,kx]
variable{b o:Nat}
theorem AW.mono{base:Nat}{F0:Nat->Nat->Prop}{G j:BV}(h:∀s i b lo,j s i=Y (b,lo)->∃s' g f,G s' g=Y (b,f)/\f<=lo)(hf:AW base F0 j b o):AW base F0 G b o:=by
 rcases hf with hf|⟨s,i,lo,r,u⟩
 .exact .inl hf
 .obtain⟨s',g,f,l,m⟩:=h s i b lo r;exact .inr ⟨s',g,f,l,v? m u⟩
theorem Bs.em{F0:Nat->Nat->Prop}{w0:W0}{O:AB}{a:Act}{w:World}(h:Bs F0 w0 O a w)(live:I2):Bs F0 w0 (O.em live) a w:=by
 obtain ⟨G,g⟩:=h;refine⟨G,g.gB,g.lt,g.below,g.defers,λs l=>?_,λs l=>?_,λs=>?_⟩
 .rw[AB.Aad,g.dom s l];split<;>rfl
 .have:=g.slots s l;rw[AB.Aad];split
  .cases he:O.get s with
   |bp q r=>
    rw [he]at this;simp only[AK]at this|-;rintro⟨cs,f⟩;rw[AB.Aad]at f;split at f
    .exact this ⟨cs,f⟩
    .cases f
   |undef=>trivial|sk=>rw[he]at this;exact this|tv t=>rw[he]at this;exact this|ow t=>rw[he]at this;exact this|bx cs=>rw[he]at this;exact this|tp u=>rw[he]at this;exact this|xo n es=>rw[he]at this;exact this|vS cs=>rw[he]at this;exact this|xn es=>rw[he]at this;exact this|x1 n x=>rw[he]at this;exact this|mx m=>rw[he]at this;exact this|nh q i k=>
    rw [he]at this;simp only[AK]at this|-;exact λj=>this (AB.nat_keep j)
   |la q i=>
    rw [he]at this;simp only[AK]at this|-;exact λj=>this (AB.xat_keep j)
   |lp q i c=>
    rw [he]at this;simp only[AK]at this|-;exact λj=>this (AB.xat_keep j)
  .trivial
 .rw[AB.Aad];split
  .exact g.wf s
  .trivial
section own
variable{w w':World}{F F':Nat->Nat->Prop}{z:Option (Nat×Nat)}
variable{size:Nat}{v:Value}{n:Nat}
theorem Fx.kept{xs:List Value}(h:Fx w size v n xs z)(j:∀b lo,z=Y (b,lo)->w'.heap[b]?=w.heap[b]?):Fx w' size v n xs z:=by
 refine ⟨h.1,?_⟩;rcases h.2 with hn|⟨g,cap,f,e,l,m,r,u,x,y,A⟩
 .exact .inl hn
 grind
theorem Js.kept{xs:List Value}(h:Js w size v n xs z)(g:∀b lo,z=Y (b,lo)->w'.heap[b]?=w.heap[b]?):Js w' size v n xs z:=by
 obtain ⟨l,m,f⟩:=h;exact⟨l,m.kept (λb lo j=>g b 0 (by rw[f,j];rfl)),f⟩
variable{t:TV}
theorem Bo.kept(f:Be w w' F F')(h:Bo w F z t v)(g:∀b lo,z=Y (b,lo)->w'.heap[b]?=w.heap[b]?):Bo w' F' z t v:=by
 cases t<;>simp[Bo]at h|-;obtain⟨xs,j,l,m⟩:=h;exact⟨xs,j.kept g,As f _ _ l,m⟩
theorem Q6.kept{es:Fq}(f:Be w w' F F')(h:Q6 w F z n es v)(g:∀b lo,z=Y (b,lo)->w'.heap[b]?=w.heap[b]?):Q6 w' F' z n es v:=by
 obtain ⟨xs,j,l,m⟩:=h;exact⟨xs,j.kept g,As f _ _ l,m⟩
def BI(w w':World)(ρ:Hc):Prop:=∀g j b lo,ρ g j=Y (b,lo)->w'.heap[b]?=w.heap[b]?
variable{ρ:Hc}
theorem BI.rfl'{w:World}:BI w w ρ:=λ_ _ _ _ _=>rfl
theorem FN.kept{es:Fq}(f:Be w w' F F')(h:FN w F ρ z es v)(l:∀b lo,z=Y (b,lo)->w'.heap[b]?=w.heap[b]?)(m:BI w w' ρ):FN w' F' ρ z es v:=by
 obtain ⟨xs,y,A,B⟩:=h;refine⟨xs,y.kept l,A,λj e r=>?_⟩;obtain⟨g,x,n,C,D,E,H,I⟩:=B j e r;exact⟨g,x,n,C,D,E,H,I.kept f (λb lo u=>m g j b lo u)⟩
def XA(w w':World)(ρ:Hc)(z:Option (Nat×Nat)):Prop:=∀g lo j b lo',z=Y (g,lo)->ρ g j=Y (b,lo')->w'.heap[b]?=w.heap[b]?
theorem BI.spot{w w':World}{z:Option (Nat×Nat)}(h:BI w w' ρ):XA w w' ρ z:=λg _ j b f _ l=>h g j b f l
theorem FN.Aa9{es:Fq}(l:Be w w' F F')(h:FN w F ρ z es v)(m:∀b lo,z=Y (b,lo)->w'.heap[b]?=w.heap[b]?)(r:XA w w' ρ z):FN w' F' ρ z es v:=by
 obtain ⟨xs,A,B,C⟩:=h;refine⟨xs,A.kept m,B,λj e u=>?_⟩;obtain⟨g,x,n,D,f,E,H,I⟩:=C j e u;exact⟨g,x,n,D,f,E,H,I.kept l (λb lo y=>r g 0 j b lo f y)⟩
variable{ρ':Hc}
theorem FN.po{es:Fq}(h:FN w F ρ z es v)(m:∀g lo j,z=Y (g,lo)->ρ' g j=ρ g j):FN w F ρ' z es v:=by
 obtain ⟨xs,f,l,u⟩:=h;refine⟨xs,f,l,λj e r=>?_⟩
 grind
variable{c:AQ}
theorem BE.po(h:BE w F ρ z c v)(f:∀g lo j,z=Y (g,lo)->ρ' g j=ρ g j):BE w F ρ' z c v:=by
 obtain ⟨_|_,t⟩:=c
 .exact h
 .cases t<;>first|exact h|exact FN.po h f
theorem D5.kept(f:Be w w' F F')(h:D5 w F ρ z t v)(g:∀b lo,z=Y (b,lo)->w'.heap[b]?=w.heap[b]?)(j:BI w w' ρ):D5 w' F' ρ z t v:=by
 cases t<;>simp[D5]at h|- <;>first|exact Bo.kept f h g|exact FN.kept f h g j|skip
 obtain ⟨xs,l,m,r⟩:=h;exact⟨xs,l.kept g,As f _ _ m,r⟩
theorem BE.kept(f:Be w w' F F')(h:BE w F ρ z c v)(g:∀b lo,z=Y (b,lo)->w'.heap[b]?=w.heap[b]?)(j:BI w w' ρ):BE w' F' ρ z c v:=by
 obtain ⟨_|_,t⟩:=c
 .exact⟨B8 f _ _ h.1,h.2⟩
 .exact D5.kept f h g j
theorem BE.Aa9(f:Be w w' F F')(h:BE w F ρ z c v)(g:∀b lo,z=Y (b,lo)->w'.heap[b]?=w.heap[b]?)(j:XA w w' ρ z):BE w' F' ρ z c v:=by
 obtain ⟨_|_,t⟩:=c
 .exact⟨B8 f _ _ h.1,h.2⟩
 .replace h:D5 w F ρ z t v:=h;show D5 w' F' ρ z t v;cases t<;>simp[D5]at h|- <;>first|exact Bo.kept f h g|exact FN.Aa9 f h g j|skip
  obtain ⟨xs,l,m,r⟩:=h;exact⟨xs,l.kept g,As f _ _ m,r⟩
end own
variable{v:Value}
theorem Va.kept{w w':World}{F F':Nat->Nat->Prop}{z z2:Option (Nat×Nat)}{m:MX}(B:Be w w' F F')(h:Va w F z z2 m v)(l:∀b lo,z=Y (b,lo)->w'.heap[b]?=w.heap[b]?)(u:∀b lo,z2=Y (b,lo)->w'.heap[b]?=w.heap[b]?):Va w' F' z z2 m v:=by
 cases m with
 |mp b y=>
  obtain ⟨j,f,g⟩:=h;exact⟨j,f,by unfold W8;rw[l _ _ f];exact g⟩
 |tm b y C=>
  obtain ⟨vs,j,f,g,x⟩:=h;exact⟨vs,j,f,by unfold W8;rw[l _ _ f];exact g,As B _ _ x⟩
 |mi last A=>
  obtain ⟨r,b,j,f,g,x⟩:=h;exact⟨r,b,j,f,g,by unfold kL;rw[l _ _ f,u _ _ g];exact x⟩
variable{s:Nat}{e:EV}
theorem AK.kept'{a a':Act}{w w':World}{F F':Nat->Nat->Prop}{G L:BV}{O env':AB}
  (r:Be w w' F F')(u:∀i,L s i=G s i)(y:∀i b lo,G s i=Y (b,lo)->w'.heap[b]?=w.heap[b]?)
  (M:∀i g lo j,G s i=Y (g,lo)->po a' L g j=po a G g j)(N:∀i,XA w w' (po a G) (G s i))
  (P:∀q i k,e=.nh q i k->(∃p,env'.nat q i=Y p)->(∃p,O.nat q i=Y p)/\∀v,NH a w q i k v->NH a' w' q i k v)
  (Q:∀q B,e=.bp q B->(∃cs,env'.get q=.bx cs)->(∃cs,O.get q=.bx cs)/\slot a' q=slot a q)
  (H:∀q i,(e=.la q i\/∃c,e=.lp q i c)->(∃p,env'.ln q i=Y p)->(∃p,O.ln q i=Y p)/\∀v,XV a w q i v->XV a' w' q i v)
  (h:AK a w F G O s e v):AK a' w' F' L env' s e v:=by
 cases e with
 |undef=>trivial|sk=>exact h|tv t=>exact B8 r t v h|ow t=>
  simp [AK]at h|-;rw[u];exact h.kept r (λb lo=>y _ b lo)
 |bx cs=>
  simp only[AK]at h|-;obtain⟨b,c,θ,f,A,D,K,J⟩:=h;refine⟨b,c,θ,f,by rw[y _ _ _ K];exact A,D,by rw[u];exact K,λi d hd=>?_⟩;obtain⟨x,R,l⟩:=J i d hd;exact⟨x,R,by rw[u];exact(l.Aa9 r (λb lo=>y _ b lo) (N _)).po (λg lo j I=>M _ g lo j I)⟩
 |bp q B=>
  simp only[AK]at h|-;intro C;obtain⟨l,E⟩:=Q q B rfl C;rw[E];exact h l
 |tp ε=>
  simp [AK]at h|-;obtain⟨vs,f,A⟩:=h;exact⟨vs,f,As r _ _ A⟩
 |xo n es=>
  simp [AK]at h|-;obtain⟨xs,f,A,D⟩:=h;rw[u];exact⟨xs,f.kept (λb lo=>y _ b lo),As r _ _ A,D⟩
 |vS cs=>
  simp [AK]at h|-;obtain⟨vs,f,D,J⟩:=h;refine⟨vs,f,D,λi d hd=>?_⟩;obtain⟨x,R,l⟩:=J i d hd;exact⟨x,R,by rw[u];exact(l.Aa9 r (λb lo=>y _ b lo) (N _)).po (λg lo j I=>M _ g lo j I)⟩
 |xn es=>
  simp [AK]at h|-;rw[u];exact(h.Aa9 r (λb lo=>y _ b lo) (N _)).po (λg lo j I=>M _ g lo j I)
 |x1 n κ=>
  simp only[AK]at h|-;obtain⟨g,cap,x,f,A,D,K,J,S⟩:=h;rw[u];have:=r g 0 x D K;exact⟨g,cap,x,f,A,this.1,this.2,J,S.kept r (λb lo=>y _ b lo)⟩
 |mx m=>
  simp [AK]at h|-;rw[u,u];exact h.kept r (λb lo=>y _ b lo) (λb lo=>y _ b lo)
 |nh q i k=>
  simp only[AK]at h|-;intro C;obtain⟨l,E⟩:=P q i k rfl C;exact E _ (h l)
 |la q i=>
  simp only[AK]at h|-;intro C;obtain⟨l,E⟩:=H q i (.inl rfl) C;exact E _ (h l)
 |lp q i c=>
  simp only[AK]at h|-;intro C;obtain⟨l,E⟩:=H q i (.inr ⟨c,rfl⟩) C;obtain⟨g,len,cap,f,A⟩:=h l;exact⟨g,len,cap,E _ f,A⟩
theorem AK.kept{a a':Act}{w w':World}{F F':Nat->Nat->Prop}{G f:BV}{O env':AB}
  (x:Be w w' F F')(y:∀i,f s i=G s i)(A:∀i b lo,G s i=Y (b,lo)->w'.heap[b]?=w.heap[b]?)
  (B:po a' f=po a G)(C:BI w w' (po a G))
  (l:∀q i k,e=.nh q i k->(∃p,env'.nat q i=Y p)->(∃p,O.nat q i=Y p)/\∀v,NH a w q i k v->NH a' w' q i k v)
  (m:∀q u,e=.bp q u->(∃cs,env'.get q=.bx cs)->(∃cs,O.get q=.bx cs)/\slot a' q=slot a q)
  (r:∀q i,(e=.la q i\/∃c,e=.lp q i c)->(∃p,env'.ln q i=Y p)->(∃p,O.ln q i=Y p)/\∀v,XV a w q i v->XV a' w' q i v)
  (h:AK a w F G O s e v):AK a' w' F' f env' s e v:=
 AK.kept' x y A (λ_ g _ j _=>by rw[B]) (λ_=>BI.spot C) l m r h
variable{q:Nat}{i:Option Nat}
theorem AR.xv{F0:Nat->Nat->Prop}{w0:W0}{O:AB}{a a':Act}{w w':World}{G:BV}(h:AR F0 w0 O a w G)(x:∃p,O.ln q i=Y p)(m:slot a' q=slot a q)(y:∀b,G q W=Y (b,0)->w'.heap[b]?=w.heap[b]?):∀v,XV a w q i v->XV a' w' q i v:=by
 intro v hv;cases i with
 |none=>exact hv.trans m.symm|some k=>
  obtain ⟨⟨n,es⟩,A⟩:=x;obtain⟨cs,g,_⟩:=AB.l3 A;obtain⟨b,c,θ,u,B,C⟩:=hv;have f:q<a.tmps.size:=by
   rcases w! q a.tmps.size with l|l
   .exact l
   .rw[h.dom q l]at g;cases g
  have r:=h.slots q f;rw[g]at r;obtain⟨E,c',H,j,I,_,D,_⟩:=r;rw[u]at j;simp at j;subst j;exact⟨b,c,θ,by rw[m,u],by rw[y b D];exact B,C⟩
theorem NK.at.kept{w w':World}{x:Value}{k:NK}(h:k.at w x v)(u:∀g len cap,x=.slice (Y ⟨g,0,W⟩) len cap->w'.heap[g]?=w.heap[g]?):k.at w' x v:=by
 have m:∀g len cap,x=.slice (Y ⟨g,0,W⟩) len cap->∀j,w'.cell? ⟨g,j,W⟩=w.cell? ⟨g,j,W⟩:=λg len cap e j=>World.cell?_of_block (w:=w) (w':=w') (a:=⟨g,j,W⟩) (u g len cap e);cases k with
 |hd=>exact h|el j=>exact h|rw j=>obtain⟨g,len,cap,e,h⟩:=h;exact⟨g,len,cap,e,by rw[m _ _ _ e];exact h⟩
 |rp j p=>obtain⟨g,len,cap,e,r,f,l,h,y⟩:=h;exact⟨g,len,cap,e,r,f,l,by rw[m _ _ _ e];exact h,y⟩
theorem NH.kept{a a':Act}{w w':World}{q i:Nat}{k:NK}(h:NH a w q i k v)(m:slot a' q=slot a q)(r:∀b,slot a q=.pointer (Y ⟨b,0,W⟩)->w'.heap[b]?=w.heap[b]?)
  (u:∀b c θ g len cap,slot a q=.pointer (Y ⟨b,0,W⟩)->w.heap[b]?=Y (.cells c θ (0,0))->c[i]?=Y (.slice (Y ⟨g,0,W⟩) len cap)->w'.heap[g]?=w.heap[g]?):NH a' w' q i k v:=by
 obtain ⟨b,c,θ,x,f,j,l,y⟩:=h;exact⟨b,c,θ,x,by rw[m];exact f,by rw[r b f];exact j,l,y.kept λg len cap e=>u b c θ g len cap f j (by rw[l,e])⟩
variable{ρ:Hc}
theorem FN.nil_or{w:World}{F:Nat->Nat->Prop}{z:Option (Nat×Nat)}{es:Fq}{g len cap:Nat}(h:FN w F ρ z es (.slice (Y ⟨g,0,W⟩) len cap)):z=Y (g,0):=by
 obtain ⟨xs,⟨m,j,r⟩,_⟩:=h;rcases j.2 with⟨e,_⟩|⟨u,f,l,e,x,_,_,_,_,_,y⟩
 .cases e
 grind
theorem AR.lts{F0:Nat->Nat->Prop}{w0:W0}{O:AB}{a:Act}{w:World}{G:BV}(h:AR F0 w0 O a w G)(g:O.get q≠.undef):q<a.tmps.size:=by
 rcases w! q a.tmps.size with f|f
 .exact f
 .exact absurd (h.dom q f) g
theorem AR.nh{F0:Nat->Nat->Prop}{w0:W0}{O:AB}{a a':Act}{w w':World}{G:BV}(h:AR F0 w0 O a w G){q i:Nat}{k:NK}(y:∃p,O.nat q i=Y p)(A:slot a' q=slot a q)(B:∀j b,(j=W\/j=Y i)->G q j=Y (b,0)->w'.heap[b]?=w.heap[b]?):∀v,NH a w q i k v->NH a' w' q i k v:=by
 intro v hv;obtain⟨es,I⟩:=y;obtain⟨cs,r,J⟩:=AB.og I;have m:=h.slots q (h.lts (by rw[r];simp));rw[r]at m;obtain⟨M,c',N,f,u,_,P,K⟩:=m;refine hv.kept A (λb C=>?_) (λb c θ g len cap D E H=>?_)
 .grind
 .rw[D]at f;simp at f;subst f;rw[E]at u;cases u;obtain⟨x,l,L⟩:=K i _ J;rw[H]at l;simp at l;subst l;exact B (Y i) g (.inr rfl) (FN.nil_or L)
theorem AR.Abl{F0:Nat->Nat->Prop}{w0:W0}{O:AB}{a:Act}{w:World}{G:BV}(h:AR F0 w0 O a w G)(u:s<a.tmps.size){b lo g j l f:Nat}(m:G s i=Y (b,lo))(r:po a G g j=Y (l,f)):l≠b:=by
 rintro rfl;have:=(h.gB _ _ _ _ _ _ _ m r).1;omega
theorem LV{a a':Act}{G f:BV}(g:a'.tmps.size=a.tmps.size)(h:∀s,a.tmps.size<=s->f s=G s):po a' f=po a G:=by grind[po]
theorem Cj(a:Act)(d:Nat)(v:Value)(h:d<a.tmps.size):slot (a.put (Y d) v) d=v:=by
 simp [slot,Act.put,Array.getD_eq_getD_getElem?,h]
theorem AZ(a:Act)(d s:Nat)(v:Value)(h:d≠s):slot (a.put (Y d) v) s=slot a s:=by
 simp [slot,Act.put,Array.getD_eq_getD_getElem?,Array.getElem?_setIfInBounds,h]
theorem Bi(a:Act)(d:Option Nat)(v:Value):(a.put d v).tmps.size=a.tmps.size:=by
 cases d<;>simp[Act.put]
theorem Ek(a:Act)(d:Option Nat)(v:Value):(a.put d v).defers=a.defers:=by
 cases d<;>simp[Act.put]
def Q4(a:Act)(d:Nat)(a':Act):Prop:=∃v,a'=a.put (Y d) v
structure K9(N:Nat)(p:Option (Nat×Value))(a:Act):Prop where
 size:a.tmps.size=N
 pin:∀i v,p=Y (i,v)->slot a i=v
variable{d:Nat}
theorem K9.put{N:Nat}{p:Option (Nat×Value)}{a a':Act}(h:K9 N p a)(hd:∀i v,p=Y (i,v)->Y d≠Y i)(k:Q4 a d a'):K9 N p a':=by
 obtain ⟨v,rfl⟩:=k;exact⟨by rw[Bi];exact h.size,λi u f=>by rw[AZ _ _ _ _ (λe=>hd i u f (by rw[e]))];exact h.pin i u f⟩
theorem QN(w:World)(F:Nat->Nat->Prop):Be w w F F:=λ_ _ _ f g=>⟨f,g⟩
variable{t:TV}
theorem AR.rem{F0:Nat->Nat->Prop}{w0:W0}{O env':AB}{a:Act}{w:World}{G:BV}(h:AR F0 w0 O a w G)(s:Nat)(A:s<a.tmps.size)(m:Ap w (AW w0.heap.size F0 G) t (slot a s))(x:t.WF)
  (l:∀n,env'.get n=O.get n\/(n=s/\env'.get n=.tv t)):AR F0 w0 env' a w G:=by
 refine ⟨h.gB,h.lt,h.below,h.defers,λq u=>?_,λq u=>?_,λq=>?_⟩
 .rcases l q with e|⟨rfl,_⟩
  .rw[e];exact h.dom q u
  .omega
 .rcases l q with e|⟨rfl,e⟩
  .rw[e];refine AK.kept (QN _ _) (λ_=>rfl) (λ_ _ _ _=>rfl) rfl BI.rfl' (λr i k m⟨p,g⟩=>?_) (λr y m⟨cs,j⟩=>?_) (λr i m⟨p,g⟩=>?_) (h.slots q u)
   .rcases l r with f|⟨_,f⟩
    .rw[AB.Aaa f]at g;exact⟨⟨p,g⟩,λ_ hv=>hv⟩
    .simp only[AB.nat,f]at g;cases g
   .rcases l r with f|⟨_,f⟩
    .rw[f]at j;exact⟨⟨cs,j⟩,rfl⟩
    .rw[f]at j;cases j
   .rcases l r with f|⟨_,f⟩
    .rw[AB.wm f]at g;exact⟨⟨p,g⟩,λ_ hv=>hv⟩
    .cases i<;>simp[AB.ln,f]at g<;>cases g
  .rw[e];exact m
 .rcases l q with e|⟨_,e⟩
  .rw[e];exact h.wf q
  .rw[e];exact x
end Go.Sf
namespace Go.Sf
open Go.RowKit (Below)
theorem AB.mo(d:Nat):∀(O:AB),O.ew d=X->∀s,(O.get s).n8≠Y d
 |[],_,s=>by simp[AB.get,EV.n8]|(k,e)::r,hn,s=>by
  simp [AB.ew]at hn;rw[AB.d3];split
  .grind[EV.tg]
  .exact AB.mo d r hn.2 s
theorem AB.AaB(d:Nat)(O:AB)(h:O.ew d=X)(s:Nat):(∀i,O.get s≠.la d i)/\∀i c,O.get s≠.lp d i c:=
 ⟨λi e=>AB.mo d O h s s?,λi c e=>AB.mo d O h s s?⟩
theorem AB.Aav(d:Nat)(O:AB)(h:O.ew d=X)(s f:Nat):O.get s≠.bp d f:=
 λe=>AB.mo d O h s s?
variable{d:Nat}{e:EV}{i:Option Nat}{p:Nat×Fq}
theorem AB.Aaz{O:AB}(h:AB.ln ((d,e)::O) d i=Y p):(∃cs,e=.bx cs)\/(∃n es,e=.xo n es):=by
 obtain ⟨n,es⟩:=p;cases i with
 |none=>have:=AB.o4 h;rw[AB.d3,QQ rfl]at this;exact .inr ⟨n,es,this⟩|some k=>obtain⟨cs,f,_⟩:=AB.l3 h;rw[AB.d3,QQ rfl]at f;exact .inl ⟨cs,f⟩
variable{q:Nat}
theorem AB.l4{O:AB}(f:∀cs,e≠.bx cs)(g:∀n es,e≠.xo n es)(h:AB.ln ((d,e)::O) q i=Y p):d≠q/\O.ln q i=Y p:=by grind[AB.Aaz,AB.wm,AB.d3]
theorem AB.tc{O:AB}(h:d≠q):AB.ln ((d,e)::O) q i=O.ln q i:=by grind[AB.wm,AB.d3]
variable{s:Nat}{k:Option Nat}
theorem AB.noXs_iff:∀{O:AB}{z:I2},AB.AbC s k z O=X↔∀p,p∉z->(O.get p).noC s k=X
 |[],z=>by simp[AB.AbC,AB.get,EV.noC]|(q,e)::r,z=>by
  simp [AB.AbC,ml,AB.noXs_iff (O:=r)]
  grind [AB.d3]
theorem AB.AaG{O:AB}:O.noX s k=X↔∀p,(O.get p).noC s k=X:=
 AB.noXs_iff.trans ⟨λh p=>h p V,λh p _=>h p⟩
theorem AB.noX_all{s k:Nat}{O:AB}(hn:O.noX s W=X):O.noX s (Y k)=X:=by
 rw [AB.AaG]at hn|-;intro p;have h:=hn p;generalize O.get p=e at h|-;cases e<;>try rfl
 .rename_i q i;cases i with
  |none=>rfl|some i=>simp[EV.noC]at h;simp[EV.noC,h]
 .rename_i q i c;cases i with
  |none=>rfl|some i=>simp[EV.noC]at h;simp[EV.noC,h]
 next q i c=>simp[EV.noC]at h;simp[EV.noC,h]
theorem AB.noX_ref{O:AB}(hn:O.ew s=X):O.noX s W=X:=by
 rw [AB.AaG];intro p;have h:=AB.mo s O hn p;generalize O.get p=e at h|-;cases e<;>try rfl
 .rename_i q i;cases i with
  |none=>rfl|some i=>simp[EV.noC,bne_iff_ne];exact λe=>h s?
 .rename_i q i c;cases i with
  |none=>rfl|some i=>simp[EV.noC,bne_iff_ne];exact λe=>h s?
 next q i c=>simp[EV.noC,bne_iff_ne];exact λe=>h s?
theorem AB.noX_nh{O:AB}(hn:O.noX s k=X)(p j:Nat)(f:k=W\/k=Y j)(c:NK):O.get p≠.nh s j c:=by grind[AB.AaG,EV.noC]
theorem AB.Aa2(d:Nat)(O:AB)(h:O.ew d=X)(s:Nat):∀i c,O.get s≠.nh d i c:=
 λi c e=>AB.mo d O h s s?
theorem AB.Aam{O:AB}{d i:Nat}{p:Fq}(h:AB.nat ((d,e)::O) d i=Y p):∃cs,e=.bx cs:=by grind[AB.og,AB.d3]
theorem AB.pN{O:AB}{d q i:Nat}{p:Fq}(f:∀cs,e≠.bx cs)(h:AB.nat ((d,e)::O) q i=Y p):d≠q/\O.nat q i=Y p:=by grind[AB.Aam,AB.Aaa,AB.d3]
theorem AB.t5{O:AB}{d q i:Nat}(h:d≠q):AB.nat ((d,e)::O) q i=O.nat q i:=by grind[AB.Aaa,AB.d3]
theorem AB.noX_spec{O:AB}(hn:O.noX s k=X)(p j:Nat)(f:k=W\/k=Y j):O.get p≠.la s (Y j)/\∀c,O.get p≠.lp s (Y j) c:=by grind[AB.AaG,EV.noC]
def I8(G:BV)(d:Nat)(zd:Option Nat->Option (Nat×Nat)):BV:=λs=>if s=d then zd else G s
theorem Bv(G:BV)(d:Nat)(f:Option Nat->Option (Nat×Nat)):I8 G d f d=f:=by simp[I8]
theorem BD(G:BV)(d s:Nat)(f:Option Nat->Option (Nat×Nat))(h:s≠d):I8 G d f s=G s:=by simp[I8,h]
section
variable{F0:Nat->Nat->Prop}{w0:W0}{O:AB}{a:Act}{w:World}{G:BV}
theorem Kc{w':World}(u:Below w.heap.size w w')(d:Nat)(l:Option Nat->Option (Nat×Nat))(x:∀i b lo,l i=Y (b,lo)->w.heap.size<=b):
  Be w w' (AW w0.heap.size F0 G) (AW w0.heap.size F0 (I8 G d l)):=by
 intro b o v m hf;have j:b<w.heap.size:=World.block_lt_of_cell? w ⟨b,o,W⟩ m;refine⟨by rw[u.cell (p:=⟨b,o,W⟩) j];exact m,λg=>hf ?_⟩;rcases g with h|⟨s,i,lo,f,y⟩
 .exact .inl h
 .by_cases r:s=d
  .subst r;rw[Bv]at f;have:=x i b lo f;omega
  .rw[BD _ _ _ _ r]at f;exact .inr ⟨s,i,lo,f,y⟩
theorem AR.AaK{w':World}(h:AR F0 w0 O a w G)(f:Below w.heap.size w w'):BI w w' (po a G):=by
 intro g j b lo l;exact f.block b (h.lt _ _ _ _ l).1
theorem AR.quiet{w':World}(h:AR F0 w0 O a w G)(C:Below w.heap.size w w')(d:Nat)(hd:d<a.tmps.size)(e:EV)(v:Value)
  (D:Option Nat->Option (Nat×Nat))(K:∀i b lo,D i=Y (b,lo)->w.heap.size<=b/\b<w'.heap.size)(L:∀i H b lo l,D i=Y (b,lo)->D H=Y (b,l)->i=H)
  (E:(∃cs,e=.bx cs)\/(∃n es,e=.xo n es)->O.ew d=X)
  (J:AK (a.put (Y d) v) w' (AW w0.heap.size F0 (I8 G d D)) (I8 G d D) ((d,e)::O) d e v)(M:e.WF):
  AR F0 w0 ((d,e)::O) (a.put (Y d) v) w' (I8 G d D):=by
 have P:=Kc (F0:=F0) (w0:=w0) (G:=G) C d D (λi b lo h=>(K i b lo h).1);refine⟨?_,?_,h.below.go C,g?,?_,?_,?_⟩
 .intro s i s' H b lo l m B;by_cases g:s=d<;>by_cases y:s'=d
  .subst g;subst y;rw[Bv]at m B;exact⟨rfl,L i H b lo l m B⟩
  .subst g;rw[Bv]at m;rw[BD _ _ _ _ y]at B;have:=(K i b lo m).1;have:=(h.lt s' H b l B).1;omega
  .subst y;rw[Bv]at B;rw[BD _ _ _ _ g]at m;have:=(K H b l B).1;have:=(h.lt s i b lo m).1;omega
  .rw[BD _ _ _ _ g]at m;rw[BD _ _ _ _ y]at B;exact h.gB s i s' H b lo l m B
 .intro s i b lo m;by_cases g:s=d
  .subst g;rw[Bv]at m;have:=K i b lo m;exact⟨this.2,.inl (v? h.below.size this.1)⟩
  .rw[BD _ _ _ _ g]at m;have:=h.lt s i b lo m;exact⟨w_ this.1 C.size,this.2⟩
 .intro s g;rw[Bi]at g;rw[AB.d3,aE U];exact h.dom s g
 .intro s g;rw[Bi]at g;rw[AB.d3];by_cases A:d=s
  .subst A;rw[QQ rfl,Cj _ _ _ hd];exact J
  .rw[aE A,AZ _ _ _ _ A];refine AK.kept P (λi=>by rw[BD _ _ _ _ (λe=>A e.symm)]) (λi b lo R=>C.block b (h.lt s i b lo R).1) (LV (Bi _ _ _) (λs g=>BD _ _ _ _ U)) (h.AaK C) (λq i k u⟨p,x⟩=>?_) (λq N u⟨cs,r⟩=>?_) (λq i u⟨p,x⟩=>?_) (h.slots s g)
   .by_cases f:d=q
    .subst f;exact absurd u (AB.Aa2 d O (E (.inl (AB.Aam x))) s i k)
    .rw[AB.t5 f]at x;exact⟨⟨p,x⟩,h.nh ⟨p,x⟩ (AZ _ _ _ _ f) (λj b _ I=>C.block b (h.lt _ _ _ _ I).1)⟩
   .rw[AB.d3]at r;by_cases f:d=q
    .subst f;rw[QQ rfl]at r;exact absurd u (AB.Aav d O (E (.inl ⟨cs,r⟩)) s N)
    .rw[aE f]at r;exact⟨⟨cs,r⟩,AZ _ _ _ _ f⟩
   .by_cases f:d=q
    .subst f;have Q:=AB.AaB d O (E (AB.Aaz x)) s;rcases u with u|⟨c,u⟩
     .exact absurd u (Q.1 i)
     .exact absurd u (Q.2 i c)
    .rw[AB.tc f]at x;exact⟨⟨p,x⟩,h.xv ⟨p,x⟩ (AZ _ _ _ _ f) (λb I=>C.block b (h.lt _ _ _ _ I).1)⟩
 .intro s;rw[AB.d3];split
  .exact M
  .exact h.wf s
theorem AR.tv{w':World}(h:AR F0 w0 O a w G)(j:Below w.heap.size w w')(d:Nat)(hd:d<a.tmps.size)(t:TV)(v:Value)
  (f:Ap w' (AW w0.heap.size F0 (I8 G d λ_=>W)) t v)(g:t.WF):
  Bs F0 w0 ((d,.tv t)::O) (a.put (Y d) v) w':=
 ⟨_,h.quiet j d hd (.tv t) v (λ_=>W) V V V f g⟩
theorem AR.tv_same(h:AR F0 w0 O a w G)(d:Nat)(hd:d<a.tmps.size)(t:TV)(v:Value)
  (f:Ap w (AW w0.heap.size F0 G) t v)(g:t.WF):
  Bs F0 w0 ((d,.tv t)::O) (a.put (Y d) v) w:=
 h.tv (Below.refl _ _) d hd t v (B8 (Kc (Below.refl _ _) d _ V) t v f) g
theorem AR.ow{w':World}(h:AR F0 w0 O a w G)(m:Below w.heap.size w w')(d:Nat)(hd:d<a.tmps.size)(t:TV)(v:Value)(z:Option (Nat×Nat))
  (r:∀b lo,z=Y (b,lo)->w.heap.size<=b/\b<w'.heap.size)
  (f:Bo w' (AW w0.heap.size F0 (I8 G d λi=>if i=W then z else W)) z t v)(g:t.WF):
  Bs F0 w0 ((d,.ow t)::O) (a.put (Y d) v) w':=by
 refine ⟨_,h.quiet m d hd (.ow t) v (λi=>if i=W then z else W) (λi b lo hi=>?_) (λi x b lo u j l=>?_) V ?_ g⟩
 .split at hi
  .exact r b lo hi
  .cases hi
 .split at j
  .split at l
   .simp_all
   .cases l
  .cases j
 .simp[AK,Bv];exact f
end
section reads
variable{w:World}{F:Nat->Nat->Prop}
theorem WI(n:Nat):∀(es:Fq)(b o:Nat),(∀e∈es,e.cells.length=n)->DD w F (es.flatMap TV.cells) b o->II w F n es b o
 |[],_,_,_,_=>trivial|e::es,b,o,hn,h=>by
  rw [Qe];have he:e.cells.length=n:=hn e V;rw[List.flatMap_cons]at h;refine⟨by have:=ex h e.cells.length;simpa using this,he,WI n es b (o+n) (λx f=>hn x (by simp[f])) ?_⟩;have:=PQ h e.cells.length
  grind
theorem PE(n:Nat):∀(es:Fq),(∀e∈es,e.cells.length=n)->(es.flatMap TV.cells).length=es.length*n
 |[],_=>by simp|e::es,hn=>by
  rw [List.flatMap_cons,a5,PE n es (λx f=>hn x (by simp[f])),hn e V,ae,Nat.add_mul,Nat.one_mul,Nat.add_comm]
variable{b o:Nat}
theorem R4{f:Fq}{xs:List Value}(h:AT w F f xs)(j:∀x∈xs,x.oneCell'=X)(l:∀(i:Nat)(x:Value),xs[i]?=Y x->w.cell? ⟨b,o+i,W⟩=Y x/\¬F b (o+i)):DD w F f b o:=by
 rw [Im];rw[Bf]at h;intro i t hi;have g:i<f.length:=by
  grind
 have m:xs[i]?=Y xs[i]:=List.getElem?_eq_getElem U
 grind
variable{size:Nat}{v:Value}{n:Nat}
theorem Fx.cell{xs:List Value}{z:Option (Nat×Nat)}{g cap:Nat}(h:Fx w size v n xs z)(hv:v=.slice (Y ⟨g,0,W⟩) n cap):∀(j:Nat)(u:Value),xs[j]?=Y u->w.cell? ⟨g,j,W⟩=Y u:=by
 intro j u y;rcases h.2 with⟨rfl,_⟩|⟨r,m,f,e,rfl,x,_,_,_,l,_⟩
 .cases hv
 .simp only[Value.slice.injEq,kx,Addr.mk.injEq]at hv;obtain⟨⟨rfl,_⟩,_⟩:=hv;rw[cell_of_row w r j f e (0,0) x]
  grind
variable{t:TV}
theorem Bo.rep{z:Option (Nat×Nat)}(h:Bo w F z t v)(u:∀b lo o,z=Y (b,lo)->o<lo->¬F b o):Ap w F t v:=by
 cases t<;>simp[Bo]at h;rename_i n es;obtain⟨xs,m,A,B,C⟩:=h;simp[Ap];rcases m.2 with⟨rfl,hn,r⟩|⟨g,cap,D,e,rfl,J,j,E,H,l,r⟩
 .grind
 .refine⟨Y ⟨g,0,W⟩,cap,rfl,j,V,λI f=>?_⟩;simp at f;subst f;refine⟨.inr rfl,WI n es g 0 B (R4 A C λi x y=>?_)⟩;rw[Nat.zero_add];refine⟨m.cell rfl i x y,u g _ i r ?_⟩
  grind
variable{ρ:Hc}
theorem D5.rep{z:Option (Nat×Nat)}(h:D5 w F ρ z t v)(f:∀b lo o,z=Y (b,lo)->o<lo->¬F b o):Ap w F t v:=by
 cases t<;>first|exact Bo.rep h f|skip
 all_goals
  obtain ⟨xs,⟨m,j,_⟩,_⟩:=h;simp[Ap];rcases j.2 with⟨rfl,_⟩|⟨g,cap,l,e,rfl,_⟩<;>rfl
end reads
end Go.Sf
