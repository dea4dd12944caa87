/- The functions of the program as Lean functions. -/
import Derived.Test.YtlbmpkmkmkgniaaGreatDoorTypes
import Derived.Test.YtlbmpkmkmkgniaaGreatDoorSfText
set_option linter.all false
set_option maxRecDepth 100000
namespace Go.Sf.Sc
open Go Go.Sf
noncomputable section
def slices_Equal_int (a:Ne) (b:Ne):ca:=
 if (!decide ((a.length:Int)=(b.length:Int))) then
 some false
 else
 thenR (forR (ρ:=Bool) (fun (i0:Int) (_:Unit)=>
 (AL a i0).bind fun c=>
 (AL b i0).bind fun d=>
 if (!decide (c=d)) then
 some (.ret false)
 else
 some (.next ())) 0 (a.length:Int) ()) (fun _=>
 some true) (fun v0=>some v0)
def LP (c:Int):ca:=
 some (((decide (97<=c))&&(decide (c<=122)))||((decide (65<=c))&&(decide (c<=90))))
def Ib [Ev] (a:ByteArray) (e:Int->ca):dD:=
 thenR (Iw (ρ:=Int) (fun (s0:Int)=>
 (if (decide (s0<(a.size:Int))) then ((sidx a s0).bind fun b=>
 (e b).bind fun c=>
 some (c)) else some false).bind fun d=>
 if d then
 some (.next (A3 (s0+1)))
 else
 some (.brk s0)) 0) (fun s0=>
 some s0) (fun v0=>some v0)
def Kk (c:Int):ca:=
 some ((decide (48<=c))&&(decide (c<=57)))
def M6 (c:Int):ca:=
 (LP c).bind fun a=>
 (if a then some true else ((Kk c).bind fun b=>
 some (b))).bind fun d=>
 some (d||(decide (c=95)))
def Lb (c:Int):ca:=
 some (((decide (32<=c))&&(decide (c<=126)))&&(!decide (c=34)))
def H8 [Ev] (a:ByteArray):Option (Int × Int):=
 (sslc a 1 a.size).bind fun e=>
 (Ib e Lb).bind fun b=>
 (if (decide ((A3 (1+b))=(a.size:Int))) then some true else ((sidx a (A3 (1+b))).bind fun c=>
 some (!decide (c=34)))).bind fun d=>
 if d then
 some (0,2)
 else
 if (decide (60<b)) then
 some (0,3)
 else
 some (A3 (b+2),0)
def slices_Index_string (a:List ByteArray) (c:ByteArray):dD:=
 thenR (forR (ρ:=Int) (fun (i0:Int) (_:Unit)=>
 (AL a i0).bind fun b=>
 if (c==b) then
 some (.ret i0)
 else
 some (.next ())) 0 (a.length:Int) ()) (fun _=>
 some (-1)) (fun v0=>some v0)
def slices_Contains_string (a:List ByteArray) (b:ByteArray):ca:=
 (slices_Index_string a b).bind fun c=>
 some (decide (0<=c))
def M5 (a:ByteArray):ca:=
 (if (decide (2<=(a.size:Int))) then ((sslc a 0 2).bind fun d=>
 (slices_Contains_string [(⟨#[45,62]⟩:ByteArray),(⟨#[60,61]⟩:ByteArray),(⟨#[62,61]⟩:ByteArray),(⟨#[61,61]⟩:ByteArray),(⟨#[33,61]⟩:ByteArray)] d).bind fun b=>
 some (b)) else some false).bind fun c=>
 some c
def strings_IndexByte (s:ByteArray) (c:Int):dD:=some (Go.Lib.indexByte s.data.toList c.toNat.toUInt8)
def JS [Ev] (a:ByteArray):Option (Int × Int × Int):=
 (sidx a 0).bind fun b=>
 (LP b).bind fun f=>
 if f then
 (Ib a M6).bind fun c=>
 if (decide (20<c)) then
 some (0,0,3)
 else
 some (1,c,0)
 else
 (Kk b).bind fun g=>
 if g then
 (Ib a Kk).bind fun d=>
 if (decide (9<d)) then
 some (0,0,3)
 else
 some (2,d,0)
 else
 if (decide (b=34)) then
 (H8 a).bind fun e=>
 some (3,e.1,e.2)
 else
 (M5 a).bind fun h=>
 if h then
 some (4,2,0)
 else
 (strings_IndexByte (⟨#[123,125,40,41,91,93,44,59,58,61,43,45,42,60,62,33,38,124,46,63]⟩:ByteArray) b).bind fun i=>
 if (decide (0<=i)) then
 some (4,1,0)
 else
 some (0,0,2)
def Jd [Ev] (t:GK):Option (ByteArray × Bool):=
 (if (decide (t.Kind=3)) then
 (M3 (⟨#[34]⟩:ByteArray) t.Text).bind fun b=>
 (M3 b (⟨#[34]⟩:ByteArray)).bind fun c=>
 some c
 else
 some t.Text).bind fun w1=>
 if (w1==(⟨#[]⟩:ByteArray)) then
 some ((⟨#[]⟩:ByteArray),false)
 else
 (JS w1).bind fun a=>
 some (w1,((decide (a.2.2=0))&&(decide (a.1=t.Kind)))&&(decide (a.2.1=(w1.size:Int))))
def FK [Ev] (a:ByteArray):ca:=
 (Jd (GK.mk 1 a 0)).bind fun b=>
 some b.2
def EA [Ev] (a:List CU) (f:CU->ca):dD:=
 thenR (forR (ρ:=Int) (fun (i0:Int) (_:Unit)=>
 (AL a i0).bind fun b=>
 (f b).bind fun c=>
 if c then
 some (.ret i0)
 else
 some (.next ())) 0 (a.length:Int) ()) (fun _=>
 some (-1)) (fun v0=>some v0)
def DA [Ev] (a:List CU) (f:CU->ca):ca:=
 (EA a f).bind fun b=>
 some (decide (0<=b))
def M8 (m:CU) (a:CU):ca:=
 some (m.Name==a.Name)
def EI [Ev]:Nat->AC->Int->Option (List Attr)
 | 0,_,_=>none
 | n+1,t,a=>
  (AL t.Nodes a).bind fun b=>
  (if (decide (0<=b.Parent)) then
  (EI n t b.Parent).bind fun c=>
  some c
  else
  some []).bind fun w1=>
  (AL t.Nodes a).bind fun d=>
  (B2 w1 d.Attrs).bind fun e=>
  some e
def Kl [Ev] (t:AC) (a:Int):Option (List Attr):=HU fun n=>EI n t a
def FA [Ev] (a:List Attr) (f:Attr->ca):dD:=
 thenR (forR (ρ:=Int) (fun (i0:Int) (_:Unit)=>
 (AL a i0).bind fun b=>
 (f b).bind fun c=>
 if c then
 some (.ret i0)
 else
 some (.next ())) 0 (a.length:Int) ()) (fun _=>
 some (-1)) (fun v0=>some v0)
def DX [Ev] (a:List Attr) (f:Attr->ca):ca:=
 (FA a f).bind fun b=>
 some (decide (0<=b))
def Ji (y:Attr) (a:Attr):ca:=
 some (y.Name==a.Name)
def Ie [Ev] (l:List ByteArray):dD:=
 if (decide (20<(l.length:Int))) then
 some 3
 else
 thenR (forR (ρ:=Int) (fun (i0:Int) (_:Unit)=>
 (AL l i0).bind fun a=>
 (FK a).bind fun b=>
 if (!b) then
 some (.ret 2)
 else
 (slc l 0 i0).bind fun c=>
 (slices_Contains_string c a).bind fun d=>
 if d then
 some (.ret 5)
 else
 some (.next ())) 0 (l.length:Int) ()) (fun _=>
 some 0) (fun v0=>some v0)
def GB [Ev] (a:Attr) (b:List Attr):dD:=
 (FK a.Name).bind fun d=>
 if (!d) then
 some 2
 else
 (DX b (fun y0=>Ji y0 a)).bind fun e=>
 if e then
 some 5
 else
 (Ie a.Names).bind fun c=>
 if (!decide (c=0)) then
 some c
 else
 (if (decide (0<(a.Names.length:Int))) then
 some ((decide (a.Low=0))&&(decide (a.High=(A3 ((a.Names.length:Int) - 1)))))
 else
 some (((decide ((-1000000)<=a.Low))&&(decide (a.Low<=a.High)))&&(decide (a.High<=1000000)))).bind fun w1=>
 if (!w1) then
 some 6
 else
 some 0
def JV [Ev] (t:AC) (c:Int):dD:=
 (AL t.Nodes c).bind fun a=>
 (FK a.Name).bind fun e=>
 if (!e) then
 some 2
 else
 (slc t.Nodes 0 c).bind fun f=>
 (DA f (fun y0=>M8 y0 a)).bind fun g=>
 if g then
 some 5
 else
 if ((decide (a.Parent<(-1)))||(decide (c<=a.Parent))) then
 some 6
 else
 if (decide (4<(a.Attrs.length:Int))) then
 some 3
 else
 (Kl t c).bind fun b=>
 if (decide (8<(b.length:Int))) then
 some 3
 else
 thenR (forR (ρ:=Int) (fun (i1:Int) (_:Unit)=>
 (AL b i1).bind fun h=>
 (slc b 0 i1).bind fun i=>
 (GB h i).bind fun d=>
 if (!decide (d=0)) then
 some (.ret d)
 else
 some (.next ())) (A3 ((b.length:Int) - (a.Attrs.length:Int))) (b.length:Int) ()) (fun _=>
 some 0) (fun v1=>some v1)
def LQ (n:Int) (a:AC):ca:=
 some ((decide (0<=n))&&(decide (n<(a.Nodes.length:Int))))
def D9 [Ev] (a:List DD) (f:DD->ca):dD:=
 thenR (forR (ρ:=Int) (fun (i0:Int) (_:Unit)=>
 (AL a i0).bind fun b=>
 (f b).bind fun c=>
 if c then
 some (.ret i0)
 else
 some (.next ())) 0 (a.length:Int) ()) (fun _=>
 some (-1)) (fun v0=>some v0)
def C9 [Ev] (a:List DD) (f:DD->ca):ca:=
 (D9 a f).bind fun b=>
 some (decide (0<=b))
def M7 (y:DD) (a:DD):ca:=
 some (y.Name==a.Name)
def KX (b:Int) (a:Int):ca:=
 some (((decide (0<=b))&&(decide (b<=40)))&&((decide (a=(-1)))||((decide (b<=a))&&(decide (a<=40)))))
def JU [Ev] (t:AC) (c:Int):dD:=
 (AL t.Edges c).bind fun a=>
 (FK a.Name).bind fun d=>
 if (!d) then
 some 2
 else
 (slc t.Edges 0 c).bind fun e=>
 (C9 e (fun y0=>M7 y0 a)).bind fun f=>
 if f then
 some 5
 else
 (LQ a.From t).bind fun g=>
 (if (!g) then some true else ((LQ a.To t).bind fun h=>
 some (!h))).bind fun b=>
 (if b then
 some b
 else
 (KX a.OutLow a.OutHigh).bind fun i=>
 (if (!i) then some true else ((KX a.InLow a.InHigh).bind fun j=>
 some (!j))).bind fun k=>
 some k).bind fun w1=>
 if w1 then
 some 6
 else
 some 0
def GJ [Ev] (t:AC):Option (ByteArray × Int):=
 if (decide ((t.Nodes.length:Int)=0)) then
 some ((⟨#[]⟩:ByteArray),7)
 else
 if ((decide (12<(t.Nodes.length:Int)))||(decide (20<(t.Edges.length:Int)))) then
 some ((⟨#[]⟩:ByteArray),3)
 else
 thenR (forR (ρ:=(ByteArray × Int)) (fun (i1:Int) (_:Unit)=>
 (AL t.Nodes i1).bind fun c=>
 (JV t i1).bind fun a=>
 if (!decide (a=0)) then
 some (.ret (c.Name,a))
 else
 some (.next ())) 0 (t.Nodes.length:Int) ()) (fun _=>
 thenR (forR (ρ:=(ByteArray × Int)) (fun (i3:Int) (_:Unit)=>
 (AL t.Edges i3).bind fun d=>
 (JU t i3).bind fun b=>
 if (!decide (b=0)) then
 some (.ret (d.Name,b))
 else
 some (.next ())) 0 (t.Edges.length:Int) ()) (fun _=>
 some ((⟨#[]⟩:ByteArray),0)) (fun v3=>some v3)) (fun v1=>some v1)
def FT [Ev] (a:Ne) (f:Int->ca):dD:=
 thenR (forR (ρ:=Int) (fun (i0:Int) (_:Unit)=>
 (AL a i0).bind fun b=>
 (f b).bind fun c=>
 if c then
 some (.ret i0)
 else
 some (.next ())) 0 (a.length:Int) ()) (fun _=>
 some (-1)) (fun v0=>some v0)
def B0 [Ev] (a:Ne) (f:Int->ca):ca:=
 (FT a f).bind fun b=>
 some (decide (0<=b))
def Ip (n:Int) (a:Int):ca:=
 some ((decide (0<=n))&&(decide (n<=a)))
def MG (t:Int):ca:=
 (Ip t 99).bind fun a=>
 some (!a)
def FB [Ev] (a:List DK) (f:DK->ca):dD:=
 thenR (forR (ρ:=Int) (fun (i0:Int) (_:Unit)=>
 (AL a i0).bind fun b=>
 (f b).bind fun c=>
 if c then
 some (.ret i0)
 else
 some (.next ())) 0 (a.length:Int) ()) (fun _=>
 some (-1)) (fun v0=>some v0)
def CD [Ev] (a:List DK) (f:DK->ca):ca:=
 (FB a f).bind fun b=>
 some (decide (0<=b))
def Mt (e:DK) (a:Int):ca:=
 (Ip e.Type' 99).bind fun g=>
 (if g then ((Ip e.From (A3 (a - 1))).bind fun b=>
 some (b)) else some false).bind fun c=>
 (if c then ((Ip e.To (A3 (a - 1))).bind fun d=>
 some (d)) else some false).bind fun f=>
 some f
def MH (e:DK) (b:Graph):ca:=
 (Mt e (b.Nodes.length:Int)).bind fun a=>
 some (!a)
def EU [Ev] (g:Graph):dD:=
 if ((decide (40<(g.Nodes.length:Int)))||(decide (80<(g.Edges.length:Int)))) then
 some 3
 else
 (B0 g.Nodes MG).bind fun a=>
 if a then
 some 6
 else
 (CD g.Edges (fun y0=>MH y0 g)).bind fun b=>
 if b then
 some 6
 else
 some 0
def ML (a:Int) (b:AC):ca:=
 some ((decide (a<0))||(decide ((b.Nodes.length:Int)<=a)))
def G6 [Ev] (t:AC) (l:Ne):dD:=
 (GJ t).bind fun b=>
 if (!decide (b.2=0)) then
 some b.2
 else
 (B0 l (fun y0=>ML y0 t)).bind fun a=>
 if a then
 some 6
 else
 some 0
def slices_Clone_string (a:List ByteArray):Option (List ByteArray):=
 B2 [] a
def Hx [Ev] (t:AC) (a:Int):Option (List Attr × Int):=
 (G6 t [a]).bind fun c=>
 if (!decide (c=0)) then
 some ([],c)
 else
 (Kl t a).bind fun d=>
 (forA (fun (i0:Int) (s0:List Attr)=>
 (AL s0 i0).bind fun e=>
 (slices_Clone_string e.Names).bind fun f=>
 (AL s0 i0).bind fun b=>
 some (CJ s0 i0 (Attr.mk b.Name b.Low b.High f))) 0 (d.length:Int) d).bind fun s0=>
 some (s0,0)
def J6 [Ev] (t:AC) (a:Int) (h:Ne):dD:=
 if (decide ((t.Nodes.length:Int)<=a)) then
 some 6
 else
 (AL t.Nodes a).bind fun d=>
 if d.Abstract then
 some 13
 else
 (Hx t a).bind fun b=>
 if (!decide ((h.length:Int)=(b.1.length:Int))) then
 some 20
 else
 thenR (forR (ρ:=Int) (fun (i0:Int) (_:Unit)=>
 (AL b.1 i0).bind fun c=>
 (AL h i0).bind fun e=>
 (if (decide (e<c.Low)) then some true else ((AL h i0).bind fun f=>
 some (decide (c.High<f)))).bind fun g=>
 if g then
 some (.ret 6)
 else
 some (.next ())) 0 (b.1.length:Int) ()) (fun _=>
 some 0) (fun v0=>some v0)
def slices_Index_int (a:Ne) (c:Int):dD:=
 thenR (forR (ρ:=Int) (fun (i0:Int) (_:Unit)=>
 (AL a i0).bind fun b=>
 if (decide (c=b)) then
 some (.ret i0)
 else
 some (.next ())) 0 (a.length:Int) ()) (fun _=>
 some (-1)) (fun v0=>some v0)
def slices_Contains_int (a:Ne) (b:Int):ca:=
 (slices_Index_int a b).bind fun c=>
 some (decide (0<=c))
def slices_Reverse_int (l:Ne):Option Ne:=if l.length<=BS then some l.reverse else none
def KN [Ev] (t:AC) (a:Int):Option Ne:=
 thenR (Iw (ρ:=Ne) (fun (s0:Int × Ne)=>
 if (decide (0<=s0.1)) then
 (B2 s0.2 [s0.1]).bind fun b=>
 (AL t.Nodes s0.1).bind fun c=>
 some (.next (c.Parent,b))
 else
 some (.brk (s0.1,s0.2))) (a,[])) (fun s0=>
 (slices_Reverse_int s0.2).bind fun d=>
 some d) (fun v0=>some v0)
def Je [Ev] (t:AC) (a:Int) (b:Int):ca:=
 (KN t a).bind fun d=>
 (slices_Contains_int d b).bind fun c=>
 some c
def JT [Ev] (t:AC) (a:Int) (b:Int) (c:Int):ca:=
 (G6 t [b,c]).bind fun d=>
 if (((!decide (d=0))||(decide (a<0)))||(decide ((t.Edges.length:Int)<=a))) then
 some false
 else
 (AL t.Edges a).bind fun e=>
 (Je t b e.From).bind fun f=>
 (if f then ((AL t.Edges a).bind fun g=>
 (Je t c g.To).bind fun h=>
 some (h)) else some false).bind fun i=>
 some i
def Hs [Ev] (t:AC) (a:AQ):Option (Int × Int):=
 (GJ t).bind fun c=>
 if (!decide (c.2=0)) then
 some ((-1),c.2)
 else
 (EU a.Graph).bind fun d=>
 if (!decide (d=0)) then
 some ((-1),d)
 else
 if (!decide ((a.Values.length:Int)=(a.Graph.Nodes.length:Int))) then
 some ((-1),20)
 else
 thenR (forR (ρ:=(Int × Int)) (fun (i0:Int) (_:Unit)=>
 (AL a.Graph.Nodes i0).bind fun f=>
 (AL a.Values i0).bind fun g=>
 (J6 t f g).bind fun e=>
 if (!decide (e=0)) then
 some (.ret (i0,e))
 else
 some (.next ())) 0 (a.Graph.Nodes.length:Int) ()) (fun _=>
 thenR (forR (ρ:=(Int × Int)) (fun (i2:Int) (_:Unit)=>
 (AL a.Graph.Edges i2).bind fun b=>
 if (decide ((t.Edges.length:Int)<=b.Type')) then
 some (.ret (i2,6))
 else
 (AL a.Graph.Nodes b.From).bind fun h=>
 (AL a.Graph.Nodes b.To).bind fun i=>
 (JT t b.Type' h i).bind fun j=>
 if (!j) then
 some (.ret (i2,13))
 else
 some (.next ())) 0 (a.Graph.Edges.length:Int) ()) (fun _=>
 some ((-1),0)) (fun v2=>some v2)) (fun v0=>some v0)
def IP (n:Int) (a:AC):ca:=
 some (decide ((a.Nodes.length:Int)<=n))
def IQ (a:DK) (b:AC):ca:=
 some (decide ((b.Edges.length:Int)<=a.Type'))
def DW (n:Int) (b:Int) (a:Int):ca:=
 some ((decide (b<=n))&&(decide (n<=a)))
def GV [Ev] (t:AC) (p:Pattern) (a:EG):Option (Attr × Bool):=
 (DW a.Node 0 (A3 ((p.Graph.Nodes.length:Int) - 1))).bind fun c=>
 if (!c) then
 some (Attr.mk (⟨#[]⟩:ByteArray) 0 0 [],false)
 else
 (AL p.Graph.Nodes a.Node).bind fun d=>
 (Hx t d).bind fun b=>
 (DW a.Attr 0 (A3 ((b.1.length:Int) - 1))).bind fun e=>
 if (!e) then
 some (Attr.mk (⟨#[]⟩:ByteArray) 0 0 [],false)
 else
 (AL b.1 a.Attr).bind fun f=>
 some (f,true)
def JH (n:Int) (t:Term):ca:=
 some ((((decide ((-1)<=t.Var))&&(decide (t.Var<n)))&&(decide ((-1000000)<=t.Add)))&&(decide (t.Add<=1000000)))
def Jq (n:Int) (a:Test):dD:=
 if ((!decide (a.Kind=1))&&(!decide (a.Kind=2))) then
 some 1
 else
 (JH n a.Left).bind fun b=>
 (if (!b) then some true else ((JH n a.Right).bind fun c=>
 some (!c))).bind fun d=>
 if d then
 some 6
 else
 some 0
def Il (n:Int) (l:List Test):dD:=
 if ((decide (n<0))||(decide (12<n))) then
 some 6
 else
 if (decide (40<(l.length:Int))) then
 some 3
 else
 thenR (forR (ρ:=Int) (fun (i0:Int) (_:Unit)=>
 (AL l i0).bind fun b=>
 (Jq n b).bind fun a=>
 if (!decide (a=0)) then
 some (.ret a)
 else
 some (.next ())) 0 (l.length:Int) ()) (fun _=>
 some 0) (fun v0=>some v0)
def Jh (a:d0) (c:Bool):dD:=
 thenR (forR (ρ:=Int) (fun (i0:Int) (_:Unit)=>
 (AL a i0).bind fun b=>
 if (c==b) then
 some (.ret i0)
 else
 some (.next ())) 0 (a.length:Int) ()) (fun _=>
 some (-1)) (fun v0=>some v0)
def HK (a:d0) (b:Bool):ca:=
 (Jh a b).bind fun c=>
 some (decide (0<=c))
def EJ [Ev] (t:AC) (p:Pattern):dD:=
 (GJ t).bind fun c=>
 if (!decide (c.2=0)) then
 some c.2
 else
 (EU p.Graph).bind fun d=>
 if (!decide (d=0)) then
 some d
 else
 (B0 p.Graph.Nodes (fun y0=>IP y0 t)).bind fun f=>
 (if f then some true else ((CD p.Graph.Edges (fun y0=>IQ y0 t)).bind fun g=>
 some (g))).bind fun h=>
 if h then
 some 13
 else
 (DW p.Vars 0 12).bind fun i=>
 if (!i) then
 some 6
 else
 if ((decide (10<(p.Slots.length:Int)))||(decide (10<(p.Tests.length:Int)))) then
 some 3
 else
 (J7 p.Vars false).bind fun j=>
 thenR (forR (ρ:=Int) (fun (i0:Int) (s0:d0)=>
 (AL p.Slots i0).bind fun a=>
 (GV t p a).bind fun k=>
 (if (!k.2) then some true else ((DW a.Term.Var (-1) (A3 (p.Vars - 1))).bind fun l=>
 some (!l))).bind fun m=>
 (if m then some true else ((DW a.Term.Add (-1000000) 1000000).bind fun n=>
 some (!n))).bind fun o=>
 if o then
 some (.ret 6)
 else
 if (decide (0<=a.Term.Var)) then
 (AL s0 a.Term.Var).bind fun q=>
 some (.next (CJ s0 a.Term.Var true))
 else
 some (.next s0)) 0 (p.Slots.length:Int) j) (fun s0=>
 (Il p.Vars p.Tests).bind fun b=>
 if (!decide (b=0)) then
 some b
 else
 (HK s0 false).bind fun e=>
 if e then
 some 9
 else
 some 0) (fun v0=>some v0)
def D1 [Ev] (a:List AA) (f:AA->ca):dD:=
 thenR (forR (ρ:=Int) (fun (i0:Int) (_:Unit)=>
 (AL a i0).bind fun b=>
 (f b).bind fun c=>
 if c then
 some (.ret i0)
 else
 some (.next ())) 0 (a.length:Int) ()) (fun _=>
 some (-1)) (fun v0=>some v0)
def B1 [Ev] (a:List AA) (f:AA->ca):ca:=
 (D1 a f).bind fun b=>
 some (decide (0<=b))
def GW (c:AA):ca:=
 some ((decide ((A3 ((A3 ((A3 ((A3 ((A3 ((c.Map.Nodes.length:Int)+(c.Map.Edges.length:Int)))+(c.Pattern.Graph.Nodes.length:Int)))+(c.Pattern.Graph.Edges.length:Int)))+(c.Pattern.Slots.length:Int)))+(c.Pattern.Tests.length:Int)))=0))&&(decide (c.Pattern.Vars=0)))
mutual
def B3 [Ev]:Nat->AA->ca
 | 0,_=>none
 | n+1,c=>
  (if (decide (c.Kind=1)) then
  (if (decide ((c.Kids.length:Int)=0)) then ((GW c).bind fun d=>
  some (d)) else some false).bind fun e=>
  some e
  else
  if (decide (c.Kind=2)) then
  (if (decide ((c.Kids.length:Int)=1)) then ((GW c).bind fun f=>
  some (f)) else some false).bind fun g=>
  some g
  else
  if (decide (c.Kind=3)) then
  if (decide (c.Kind=3)) then
  (if (decide (1<=(c.Kids.length:Int))) then ((GW c).bind fun a=>
  some (a)) else some false).bind fun b=>
  some b
  else
  if (decide (c.Kind=5)) then
  some (decide ((c.Kids.length:Int)=1))
  else
  some false
  else
  if (decide (c.Kind=4)) then
  (if (decide (1<=(c.Kids.length:Int))) then ((GW c).bind fun a=>
  some (a)) else some false).bind fun b=>
  some b
  else
  if (decide (c.Kind=5)) then
  some (decide ((c.Kids.length:Int)=1))
  else
  some false).bind fun w1=>
  (if w1 then ((B1 c.Kids (B9 n)).bind fun h=>
  some (!h)) else some false).bind fun i=>
  some i
def B9 [Ev]:Nat->AA->ca
 | 0,_=>none
 | n+1,k=>
  (B3 n k).bind fun a=>
  some (!a)
end
def HD [Ev] (c:AA):ca:=HU fun n=>B3 n c
def PU [Ev] (k:AA):ca:=HU fun n=>B9 n k
def DE [Ev]:Nat->AA->Option (Int × Int)
 | 0,_=>none
 | n+1,c=>
  (forA (fun (i0:Int) (s0:Int × Int)=>
  (AL c.Kids i0).bind fun b=>
  (DE n b).bind fun a=>
  some (A3 (s0.1+a.1),max s0.2 a.2)) 0 (c.Kids.length:Int) (1,0)).bind fun s0=>
  (if (decide (c.Kind=5)) then
  some (A3 (s0.2+1))
  else
  some s0.2).bind fun w1=>
  some (s0.1,w1)
def IS [Ev] (c:AA):Option (Int × Int):=HU fun n=>DE n c
def F6 [Ev] (c:AA):dD:=
 (HD c).bind fun b=>
 if (!b) then
 some 1
 else
 (IS c).bind fun a=>
 if ((decide (12<a.1))||(decide (3<a.2))) then
 some 3
 else
 some 0
def FC [Ev] (a:List EG) (f:EG->ca):dD:=
 thenR (forR (ρ:=Int) (fun (i0:Int) (_:Unit)=>
 (AL a i0).bind fun b=>
 (f b).bind fun c=>
 if c then
 some (.ret i0)
 else
 some (.next ())) 0 (a.length:Int) ()) (fun _=>
 some (-1)) (fun v0=>some v0)
def DY [Ev] (a:List EG) (f:EG->ca):ca:=
 (FC a f).bind fun b=>
 some (decide (0<=b))
def Iy (a:EG) (b:Int):ca:=
 some (decide (a.Term.Var=b))
def EZ [Ev] (t:AC) (q:Pattern) (b:Int):dD:=
 (EJ t q).bind fun a=>
 if (!decide (a=9)) then
 some a
 else
 thenR (Iw (ρ:=Int) (fun (s0:Int)=>
 if (decide (s0<q.Vars)) then
 (DY q.Slots (fun y0=>Iy y0 s0)).bind fun c=>
 if (!c) then
 some (.ret a)
 else
 some (.next (A3 (s0+1)))
 else
 some (.brk s0)) b) (fun s0=>
 some 0) (fun v0=>some v0)
def FN [Ev] (a:Graph) (b:Graph) (m:Morphism):dD:=
 (EU a).bind fun g=>
 if (!decide (g=0)) then
 some g
 else
 (EU b).bind fun h=>
 if (!decide (h=0)) then
 some h
 else
 if ((!decide ((m.Nodes.length:Int)=(a.Nodes.length:Int)))||(!decide ((m.Edges.length:Int)=(a.Edges.length:Int)))) then
 some 20
 else
 thenR (forR (ρ:=Int) (fun (i0:Int) (_:Unit)=>
 (AL m.Nodes i0).bind fun c=>
 if ((decide (c<0))||(decide ((b.Nodes.length:Int)<=c))) then
 some (.ret 6)
 else
 (AL b.Nodes c).bind fun l=>
 (AL a.Nodes i0).bind fun n=>
 if (!decide (l=n)) then
 some (.ret 13)
 else
 some (.next ())) 0 (m.Nodes.length:Int) ()) (fun _=>
 thenR (forR (ρ:=Int) (fun (i2:Int) (_:Unit)=>
 (AL m.Edges i2).bind fun d=>
 if ((decide (d<0))||(decide ((b.Edges.length:Int)<=d))) then
 some (.ret 6)
 else
 (AL a.Edges i2).bind fun e=>
 (AL b.Edges d).bind fun f=>
 if (!decide (e.Type'=f.Type')) then
 some (.ret 13)
 else
 (AL m.Nodes e.From).bind fun i=>
 (if (!decide (i=f.From)) then some true else ((AL m.Nodes e.To).bind fun j=>
 some (!decide (j=f.To)))).bind fun k=>
 if k then
 some (.ret 11)
 else
 some (.next ())) 0 (m.Edges.length:Int) ()) (fun _=>
 some 0) (fun v2=>some v2)) (fun v0=>some v0)
def slices_Clone_int (a:Ne):Option Ne:=
 B2 [] a
def slices_Sort_int (l:Ne):Option Ne:=if l.length<=BS then some (PB l) else none
def slices_Compact_int (l:Ne):Option Ne:=if l.length<=BS then some (Go.Lib.compact l) else none
def IF (l:Ne):dD:=
 (slices_Clone_int l).bind fun a=>
 (slices_Sort_int a).bind fun b=>
 (slices_Compact_int b).bind fun c=>
 some (c.length:Int)
def EN [Ev] (a:Graph) (b:Graph) (m:Morphism):ca:=
 (FN a b m).bind fun c=>
 (if (decide (c=0)) then ((IF m.Nodes).bind fun d=>
 some (decide (d=(m.Nodes.length:Int)))) else some false).bind fun e=>
 (if e then ((IF m.Edges).bind fun f=>
 some (decide (f=(m.Edges.length:Int)))) else some false).bind fun g=>
 some g
def C1 [Ev]:Nat->AC->Pattern->AA->dD
 | 0,_,_,_=>none
 | n+1,t,p,c=>
  if (decide (c.Kind=5)) then
  if (decide (c.Pattern.Vars<p.Vars)) then
  some 20
  else
  (EZ t c.Pattern p.Vars).bind fun d=>
  if (!decide (d=0)) then
  some d
  else
  (FN p.Graph c.Pattern.Graph c.Map).bind fun e=>
  if (!decide (e=0)) then
  some e
  else
  (EN p.Graph c.Pattern.Graph c.Map).bind fun f=>
  if (!f) then
  some 1
  else
  thenR (forR (ρ:=Int) (fun (i0:Int) (_:Unit)=>
  (AL c.Kids i0).bind fun b=>
  (C1 n t c.Pattern b).bind fun a=>
  if (!decide (a=0)) then
  some (.ret a)
  else
  some (.next ())) 0 (c.Kids.length:Int) ()) (fun _=>
  some 0) (fun v0=>some v0)
  else
  thenR (forR (ρ:=Int) (fun (i0:Int) (_:Unit)=>
  (AL c.Kids i0).bind fun b=>
  (C1 n t p b).bind fun a=>
  if (!decide (a=0)) then
  some (.ret a)
  else
  some (.next ())) 0 (c.Kids.length:Int) ()) (fun _=>
  some 0) (fun v0=>some v0)
def KF [Ev] (t:AC) (p:Pattern) (c:AA):dD:=HU fun n=>C1 n t p c
def EK [Ev] (t:AC) (p:Pattern) (c:AA):dD:=
 (EJ t p).bind fun a=>
 if (!decide (a=0)) then
 some a
 else
 (F6 c).bind fun b=>
 if (!decide (b=0)) then
 some b
 else
 (KF t p c).bind fun d=>
 some d
def Ku (n:Int) (a:AC):ca:=
 some (decide ((a.Nodes.length:Int)<=n))
def Kv (a:DK) (b:AC):ca:=
 some (decide ((b.Edges.length:Int)<=a.Type'))
def GO [Ev] (t:AC) (g:Graph):ca:=
 (B0 g.Nodes (fun y0=>Ku y0 t)).bind fun c=>
 (if (!c) then ((CD g.Edges (fun y0=>Kv y0 t)).bind fun a=>
 some (!a)) else some false).bind fun b=>
 some b
def HI [Ev] (t:AC) (p:Graph) (g:Graph):dD:=
 (GJ t).bind fun a=>
 if (!decide (a.2=0)) then
 some a.2
 else
 thenR (forR (ρ:=Int) (fun (i0:Int) (_:Unit)=>
 (AL [p,g] i0).bind fun c=>
 (EU c).bind fun b=>
 if (!decide (b=0)) then
 some (.ret b)
 else
 some (.next ())) 0 ([p,g].length:Int) ()) (fun _=>
 (GO t p).bind fun d=>
 (if (!d) then some true else ((GO t g).bind fun e=>
 some (!e))).bind fun f=>
 if f then
 some 13
 else
 some 0) (fun v0=>some v0)
def Ic [Ev] (t:AC) (a:Int):Option (Ne × Int):=
 (G6 t [a]).bind fun b=>
 if (!decide (b=0)) then
 some ([],b)
 else
 (forA (fun (i0:Int) (s0:Ne)=>
 (Je t i0 a).bind fun c=>
 if c then
 (B2 s0 [i0]).bind fun d=>
 some d
 else
 some s0) 0 (t.Nodes.length:Int) []).bind fun s0=>
 some (s0,0)
def HH [Ev] (t:AC):Option (List d0):=
 (forA (fun (i0:Int) (s0:List d0)=>
 (J7 (t.Nodes.length:Int) false).bind fun c=>
 (Ic t i0).bind fun a=>
 (forA (fun (i2:Int) (s2:d0)=>
 (AL a.1 i2).bind fun b=>
 (AL s2 b).bind fun e=>
 some (CJ s2 b true)) 0 (a.1.length:Int) c).bind fun s2=>
 (B2 s0 [s2]).bind fun d=>
 some d) 0 (t.Nodes.length:Int) []).bind fun s0=>
 some s0
def H7 [Ev] (t:AC) (p:Graph) (g:Graph) (m:Morphism):dD:=
 if ((!decide ((m.Nodes.length:Int)=(p.Nodes.length:Int)))||(!decide ((m.Edges.length:Int)=(p.Edges.length:Int)))) then
 some 20
 else
 (HH t).bind fun i=>
 thenR (forR (ρ:=Int) (fun (i0:Int) (_:Unit)=>
 (AL m.Nodes i0).bind fun a=>
 if ((decide (a<0))||(decide ((g.Nodes.length:Int)<=a))) then
 some (.ret 6)
 else
 (AL p.Nodes i0).bind fun j=>
 (AL i j).bind fun k=>
 (AL g.Nodes a).bind fun l=>
 (AL k l).bind fun n=>
 if (!n) then
 some (.ret 13)
 else
 some (.next ())) 0 (m.Nodes.length:Int) ()) (fun _=>
 thenR (forR (ρ:=Int) (fun (i2:Int) (_:Unit)=>
 (AL m.Edges i2).bind fun b=>
 if ((decide (b<0))||(decide ((g.Edges.length:Int)<=b))) then
 some (.ret 6)
 else
 (AL p.Edges i2).bind fun c=>
 (AL g.Edges b).bind fun d=>
 if (!decide (c.Type'=d.Type')) then
 some (.ret 13)
 else
 (AL m.Nodes c.From).bind fun e=>
 (if (!decide (e=d.From)) then some true else ((AL m.Nodes c.To).bind fun f=>
 some (!decide (f=d.To)))).bind fun h=>
 if h then
 some (.ret 11)
 else
 some (.next ())) 0 (m.Edges.length:Int) ()) (fun _=>
 some 0) (fun v2=>some v2)) (fun v0=>some v0)
def Iv (l:Ne):ca:=if l.length<=4096 then some (dupB l) else none
def HF [Ev] (t:AC) (p:Graph) (g:Graph) (m:Morphism) (a:Bool):dD:=
 (HI t p g).bind fun b=>
 if (!decide (b=0)) then
 some b
 else
 (H7 t p g m).bind fun c=>
 if (!decide (c=0)) then
 some c
 else
 (if a then ((Iv m.Nodes).bind fun d=>
 (if d then some true else ((Iv m.Edges).bind fun e=>
 some (e))).bind fun f=>
 some (f)) else some false).bind fun h=>
 if h then
 some 5
 else
 some 0
def F2 [Ev] (t:AC) (p:Pattern) (c:AQ):dD:=
 (EJ t p).bind fun a=>
 if (!decide (a=0)) then
 some a
 else
 (Hs t c).bind fun b=>
 some b.2
def JL (a b c:Int):Option (Int × Int):=if (0<=a∧a<18446744073709551616)∧(0<=b∧b<18446744073709551616)∧0<=c∧c<=1 then some ((a+b+c) % 18446744073709551616,(a+b+c) / 18446744073709551616) else none
def IB (a:Int) (b:Int):Option (Int × Int):=
 (JL (IntKind.u64.wrap a) (IntKind.u64.wrap b) 0).bind fun c=>
 (Lv .i64 .shr a 63).bind fun d=>
 (Lv .i64 .shr b 63).bind fun e=>
 some (A3 ((A3 (d+e))+(A3 c.2)),c.1)
def GX (t:Term) (d:Ne):Option (Int × Int × Bool):=
 if (decide (t.Var=(-1))) then
 (IB 0 t.Add).bind fun a=>
 some (a.1,a.2,true)
 else
 if ((decide (t.Var<0))||(decide ((d.length:Int)<=t.Var))) then
 some (0,0,false)
 else
 (AL d t.Var).bind fun c=>
 (IB c t.Add).bind fun b=>
 some (b.1,b.2,true)
def Mp (a:Ne):dD:=
 thenR (forR (ρ:=Int) (fun (i0:Int) (_:Unit)=>
 (AL a i0).bind fun b=>
 if (!decide (b=0)) then
 some (.ret b)
 else
 some (.next ())) 0 (a.length:Int) ()) (fun _=>
 some 0) (fun v0=>some v0)
def cmp_isNaN_int (a:Int):ca:=
 some (!decide (a=a))
def cmp_Compare_int (a:Int) (y:Int):dD:=
 (cmp_isNaN_int a).bind fun c=>
 (cmp_isNaN_int y).bind fun b=>
 if c then
 if b then
 some 0
 else
 some (-1)
 else
 if b then
 some 1
 else
 if (decide (a<y)) then
 some (-1)
 else
 if (decide (y<a)) then
 some 1
 else
 some 0
def KD (a:Int):ca:=
 some (!decide (a=a))
def JG (a:Int) (y:Int):dD:=
 (KD a).bind fun c=>
 (KD y).bind fun b=>
 if c then
 if b then
 some 0
 else
 some (-1)
 else
 if b then
 some 1
 else
 if (decide (a<y)) then
 some (-1)
 else
 if (decide (y<a)) then
 some 1
 else
 some 0
def GR (a:Test) (g:Ne):ca:=
 (GX a.Left g).bind fun b=>
 (GX a.Right g).bind fun c=>
 if ((!b.2.2)||(!c.2.2)) then
 some false
 else
 (cmp_Compare_int b.1 c.1).bind fun e=>
 (JG b.2.1 c.2.1).bind fun f=>
 (Mp [e,f]).bind fun d=>
 some (((decide (a.Kind=1))&&(decide (d<=0)))||((decide (a.Kind=2))&&(decide (d=0))))
def F3 (a:Term) (c:Ne):dD:=
 if (decide (a.Var<0)) then
 some a.Add
 else
 (AL c a.Var).bind fun b=>
 some (A3 (b+a.Add))
def JC (p:Pattern) (l:AQ) (m:Morphism):Option (Ne × Int):=
 (J7 p.Vars 0).bind fun d=>
 (J7 p.Vars false).bind fun e=>
 thenR (forR (ρ:=(Ne × Int)) (fun (i0:Int) (s0:Ne × d0)=>
 (AL p.Slots i0).bind fun a=>
 (AL m.Nodes a.Node).bind fun f=>
 (AL l.Values f).bind fun g=>
 (AL g a.Attr).bind fun b=>
 (if (decide (0<=a.Term.Var)) then ((AL s0.2 a.Term.Var).bind fun h=>
 some (!h)) else some false).bind fun i=>
 if i then
 (AL s0.1 a.Term.Var).bind fun n=>
 (AL s0.2 a.Term.Var).bind fun o=>
 (F3 a.Term (CJ s0.1 a.Term.Var (A3 (b - a.Term.Add)))).bind fun c=>
 if (!decide (c=b)) then
 some (.ret ([],11))
 else
 some (.next (CJ s0.1 a.Term.Var (A3 (b - a.Term.Add)),CJ s0.2 a.Term.Var true))
 else
 (F3 a.Term s0.1).bind fun c=>
 if (!decide (c=b)) then
 some (.ret ([],11))
 else
 some (.next (s0.1,s0.2))) 0 (p.Slots.length:Int) (d,e)) (fun s0=>
 thenR (forR (ρ:=(Ne × Int)) (fun (i2:Int) (_:Unit)=>
 (AL p.Tests i2).bind fun j=>
 (GR j s0.1).bind fun k=>
 if (!k) then
 some (.ret ([],16))
 else
 some (.next ())) 0 (p.Tests.length:Int) ()) (fun _=>
 some (s0.1,0)) (fun v2=>some v2)) (fun v0=>some v0)
def F1 [Ev] (t:AC) (p:Pattern) (a:AQ) (m:Morphism):Option (Ne × Int):=
 (F2 t p a).bind fun b=>
 if (!decide (b=0)) then
 some ([],b)
 else
 (HF t p.Graph a.Graph m false).bind fun c=>
 if (!decide (c=0)) then
 some ([],c)
 else
 (JC p a m).bind fun d=>
 some (d.1,d.2)
def F5 [Ev] (t:AC) (p:Pattern) (c:AA) (d:AQ) (m:AE) (a:Bool):dD:=
 (EK t p c).bind fun e=>
 if (!decide (e=0)) then
 some e
 else
 (Hs t d).bind fun f=>
 if (!decide (f.2=0)) then
 some f.2
 else
 (HF t p.Graph d.Graph m.Morphism a).bind fun g=>
 if (!decide (g=0)) then
 some g
 else
 (F1 t p d m.Morphism).bind fun b=>
 if (!decide (b.2=0)) then
 some b.2
 else
 (slices_Equal_int b.1 m.Vars).bind fun h=>
 if (!h) then
 some 11
 else
 some 0
def MJ (k:Int) (a:Int):ca:=
 some ((decide (k<(-1)))||(decide (a<=k)))
def Hv [Ev] (l:Ne) (n:Int):dD:=
 (B0 l (fun y0=>MJ y0 n)).bind fun a=>
 if a then
 some 6
 else
 some 0
def Iu (l:Ne) (a:Int):dD:=
 (WN l).bind fun c=>
 (AL l a).bind fun b=>
 some b
def E7 (f:AM) (c:Int) (k:Int):ca:=
 (AL f.p.Edges c).bind fun a=>
 (Iu f.partial_.Edges c).bind fun b=>
 if ((decide (0<=b))&&(!decide (b=k))) then
 some false
 else
 (AL f.g.Edges k).bind fun d=>
 (AL f.nodes a.From).bind fun e=>
 (AL f.nodes a.To).bind fun h=>
 some (decide (d=(DK.mk a.Type' e h)))
def C7 (f:AM):ca:=
 thenR (forR (ρ:=Bool) (fun (i0:Int) (_:Unit)=>
 (AL f.p.Edges i0).bind fun a=>
 if (!decide ((max a.From a.To)=(A3 ((f.nodes.length:Int) - 1)))) then
 some (.next ())
 else
 thenR (forR (ρ:=Bool) (fun (i2:Int) (s2:Bool)=>
 (E7 f i0 i2).bind fun b=>
 if b then
 some (.brk true)
 else
 some (.next s2)) 0 (f.g.Edges.length:Int) false) (fun s2=>
 if (!s2) then
 some (.ret false)
 else
 some (.next ())) (fun v2=>some (.ret v2))) 0 (f.p.Edges.length:Int) ()) (fun _=>
 some true) (fun v0=>some v0)
def BB [Ev]:Nat->AM->Option AM
 | 0,_=>none
 | n+1,f=>
  (if (decide ((f.out.length:Int)=f.most)) then
  some f
  else
  if (decide ((f.nodes.length:Int)<(f.p.Nodes.length:Int))) then
  (forA (fun (i1:Int) (s1:AM)=>
  (AL f.g.Nodes i1).bind fun u=>
  (Iu s1.partial_.Nodes (f.nodes.length:Int)).bind fun e=>
  (if ((decide (0<=e))&&(!decide (e=i1))) then some true else ((AL s1.p.Nodes (f.nodes.length:Int)).bind fun v=>
  (AL s1.is v).bind fun w=>
  (AL w u).bind fun x=>
  some (!x))).bind fun h=>
  (if h then some true else ((if s1.injective then ((slices_Contains_int s1.nodes i1).bind fun i=>
  some (i)) else some false).bind fun j=>
  some (j))).bind fun k=>
  if k then
  some s1
  else
  (B2 s1.nodes [i1]).bind fun c=>
  (C7 (AM.mk s1.p s1.g s1.is s1.partial_ s1.injective s1.most c s1.edges s1.out)).bind fun l=>
  if l then
  (BB n (AM.mk s1.p s1.g s1.is s1.partial_ s1.injective s1.most c s1.edges s1.out)).bind fun a=>
  (slc a.nodes 0 (f.nodes.length:Int)).bind fun d=>
  some (AM.mk a.p a.g a.is a.partial_ a.injective a.most d a.edges a.out)
  else
  (slc c 0 (f.nodes.length:Int)).bind fun d=>
  some (AM.mk s1.p s1.g s1.is s1.partial_ s1.injective s1.most d s1.edges s1.out)) 0 (f.g.Nodes.length:Int) f).bind fun s1=>
  some s1
  else
  if (decide ((f.edges.length:Int)<(f.p.Edges.length:Int))) then
  (forA (fun (i3:Int) (s3:AM)=>
  (E7 s3 (f.edges.length:Int) i3).bind fun m=>
  (if (!m) then some true else ((if s3.injective then ((slices_Contains_int s3.edges i3).bind fun o=>
  some (o)) else some false).bind fun q=>
  some (q))).bind fun r=>
  if r then
  some s3
  else
  (B2 s3.edges [i3]).bind fun s=>
  (BB n (AM.mk s3.p s3.g s3.is s3.partial_ s3.injective s3.most s3.nodes s s3.out)).bind fun b=>
  (slc b.edges 0 (f.edges.length:Int)).bind fun t=>
  some (AM.mk b.p b.g b.is b.partial_ b.injective b.most b.nodes t b.out)) 0 (f.g.Edges.length:Int) f).bind fun s3=>
  some s3
  else
  (slices_Clone_int f.nodes).bind fun y=>
  (slices_Clone_int f.edges).bind fun z=>
  (B2 f.out [Morphism.mk y z]).bind fun A=>
  some (AM.mk f.p f.g f.is f.partial_ f.injective f.most f.nodes f.edges A)).bind fun w1=>
  some w1
def GU [Ev] (f:AM):Option AM:=HU fun n=>BB n f
def H6 [Ev] (t:AC) (p:Graph) (g:Graph) (b:Morphism) (a:Bool) (c:Int):Option (List Morphism):=
 (HH t).bind fun d=>
 (GU (AM.mk p g d b a c [] [] [])).bind fun e=>
 some e.out
def KL [Ev] (t:AC) (p:Graph) (g:Graph) (b:Morphism) (a:Bool):Option (List Morphism × Int):=
 (H6 t p g b a 5001).bind fun c=>
 if (decide (5000<(c.length:Int))) then
 some ([],3)
 else
 some (c,0)
def GN [Ev] (t:AC) (p:Graph) (g:Graph) (a:Morphism) (b:Bool):Option (List Morphism × Int):=
 (HI t p g).bind fun c=>
 if (!decide (c=0)) then
 some ([],c)
 else
 if ((!decide ((a.Nodes.length:Int)=(p.Nodes.length:Int)))||(!decide ((a.Edges.length:Int)=(p.Edges.length:Int)))) then
 some ([],20)
 else
 (Hv a.Nodes (g.Nodes.length:Int)).bind fun d=>
 if (!decide (d=0)) then
 some ([],d)
 else
 (Hv a.Edges (g.Edges.length:Int)).bind fun e=>
 if (!decide (e=0)) then
 some ([],e)
 else
 (KL t p g a b).bind fun f=>
 some (f.1,f.2)
def FZ (l:Ne) (n:Int):Option Ne:=if l.length=1∧0<=n∧n<=4096 then some (List.replicate n.toNat (l.headD 0)) else none
def HY (n:Int) (e:Ne) (a:Ne):Option Ne:=
 (FZ [(-1)] n).bind fun c=>
 (forA (fun (i0:Int) (s0:Ne)=>
 (AL e i0).bind fun b=>
 (AL a i0).bind fun d=>
 (AL s0 b).bind fun f=>
 some (CJ s0 b d)) 0 (e.length:Int) c).bind fun s0=>
 some s0
def HV (a:Term) (d:Ne):Option (Int × Int):=
 (DW a.Var (-1) (A3 ((d.length:Int) - 1))).bind fun b=>
 if (!b) then
 some (0,6)
 else
 (F3 a d).bind fun c=>
 some (c,0)
def FD (p:A7) (q:Pattern) (m:Morphism) (b:Ne):Option (Ne × Bool):=
 (slices_Clone_int b).bind fun g=>
 (ST g (A3 (q.Vars - (b.length:Int))) 0).bind fun i=>
 (J7 q.Vars false).bind fun j=>
 (forA (fun (i0:Int) (s0:d0)=>
 (AL s0 i0).bind fun r=>
 some (CJ s0 i0 true)) 0 (b.length:Int) j).bind fun s0=>
 thenR (forR (ρ:=(Ne × Bool)) (fun (i2:Int) (s2:Ne × d0)=>
 (AL q.Slots i2).bind fun a=>
 (AL m.Nodes a.Node).bind fun k=>
 (AL p.h.Values k).bind fun l=>
 (AL l a.Attr).bind fun d=>
 (if (decide (0<=a.Term.Var)) then ((AL s2.2 a.Term.Var).bind fun n=>
 some (!n)) else some false).bind fun o=>
 if o then
 (AL s2.1 a.Term.Var).bind fun s=>
 (AL s2.2 a.Term.Var).bind fun t=>
 (HV a.Term (CJ s2.1 a.Term.Var (A3 (d - a.Term.Add)))).bind fun c=>
 if ((!decide (c.2=0))||(!decide (c.1=d))) then
 some (.ret ([],false))
 else
 some (.next (CJ s2.1 a.Term.Var (A3 (d - a.Term.Add)),CJ s2.2 a.Term.Var true))
 else
 (HV a.Term s2.1).bind fun c=>
 if ((!decide (c.2=0))||(!decide (c.1=d))) then
 some (.ret ([],false))
 else
 some (.next (s2.1,s2.2))) 0 (q.Slots.length:Int) (i,s0)) (fun s2=>
 thenR (forR (ρ:=(Ne × Bool)) (fun (i4:Int) (_:Unit)=>
 (AL q.Tests i4).bind fun e=>
 (GR e s2.1).bind fun f=>
 if (!f) then
 some (.ret ([],false))
 else
 some (.next ())) 0 (q.Tests.length:Int) ()) (fun _=>
 some (s2.1,true)) (fun v4=>some v4)) (fun v2=>some v2)
def CR [Ev] (b:A7) (c:AA) (m:AE):Option (List AE × Int):=
 (HY (c.Pattern.Graph.Nodes.length:Int) c.Map.Nodes m.Morphism.Nodes).bind fun f=>
 (HY (c.Pattern.Graph.Edges.length:Int) c.Map.Edges m.Morphism.Edges).bind fun g=>
 (GN b.t c.Pattern.Graph b.h.Graph (Morphism.mk f g) b.injective).bind fun a=>
 if (!decide (a.2=0)) then
 some ([],a.2)
 else
 (forA (fun (i0:Int) (s0:List AE)=>
 (AL a.1 i0).bind fun d=>
 (FD b c.Pattern d m.Vars).bind fun e=>
 if e.2 then
 (B2 s0 [AE.mk d e.1]).bind fun i=>
 some i
 else
 some s0) 0 (a.1.length:Int) []).bind fun s0=>
 some (s0,0)
mutual
def A4 [Ev]:Nat->A7->AA->AE->Option (A0 × Int)
 | 0,_,_,_=>none
 | n+1,b,c,m=>
  if (decide (c.Kind=2)) then
  (AL c.Kids 0).bind fun g=>
  (A4 n b g m).bind fun e=>
  if (decide (e.2=0)) then
  some (A0.mk 0 (AE.mk (Morphism.mk [] []) []) [],10)
  else
  if (decide (e.2=10)) then
  some (A0.mk 0 (AE.mk (Morphism.mk [] []) []) [],0)
  else
  some (A0.mk 0 (AE.mk (Morphism.mk [] []) []) [],e.2)
  else
  if (decide (c.Kind=3)) then
  thenR (forR (ρ:=(A0 × Int)) (fun (i2:Int) (s2:A0 × A0)=>
  (AL c.Kids i2).bind fun h=>
  (A4 n b h m).bind fun f=>
  if (!decide (f.2=0)) then
  some (.ret (A0.mk 0 (AE.mk (Morphism.mk [] []) []) [],f.2))
  else
  (B2 s2.2.Kids [f.1]).bind fun i=>
  some (.next (s2.1,A0.mk s2.2.Choice s2.2.Match i))) 0 (c.Kids.length:Int) (A0.mk 0 (AE.mk (Morphism.mk [] []) []) [],A0.mk 0 (AE.mk (Morphism.mk [] []) []) [])) (fun s2=>
  some (s2.2,0)) (fun v2=>some v2)
  else
  if (decide (c.Kind=4)) then
  thenR (forR (ρ:=(A0 × Int)) (fun (i4:Int) (s4:A0)=>
  (AL c.Kids i4).bind fun j=>
  (A4 n b j m).bind fun a=>
  if (decide (a.2=0)) then
  some (.ret (A0.mk i4 (AE.mk (Morphism.mk [] []) []) [a.1],0))
  else
  if (!decide (a.2=10)) then
  some (.ret (A0.mk 0 (AE.mk (Morphism.mk [] []) []) [],a.2))
  else
  some (.next s4)) 0 (c.Kids.length:Int) (A0.mk 0 (AE.mk (Morphism.mk [] []) []) [])) (fun s4=>
  some (A0.mk 0 (AE.mk (Morphism.mk [] []) []) [],10)) (fun v4=>some v4)
  else
  if (decide (c.Kind=5)) then
  (BZ n b c m).bind fun d=>
  some (d.1,d.2)
  else
  some (A0.mk 0 (AE.mk (Morphism.mk [] []) []) [],0)
def BZ [Ev]:Nat->A7->AA->AE->Option (A0 × Int)
 | 0,_,_,_=>none
 | n+1,e,c,m=>
  (CR e c m).bind fun a=>
  if (!decide (a.2=0)) then
  some (A0.mk 0 (AE.mk (Morphism.mk [] []) []) [],a.2)
  else
  thenR (forR (ρ:=(A0 × Int)) (fun (i0:Int) (s0:A0)=>
  (AL a.1 i0).bind fun d=>
  (AL c.Kids 0).bind fun f=>
  (A4 n e f d).bind fun b=>
  if (decide (b.2=0)) then
  some (.ret (A0.mk 0 d [b.1],0))
  else
  if (!decide (b.2=10)) then
  some (.ret (A0.mk 0 (AE.mk (Morphism.mk [] []) []) [],b.2))
  else
  some (.next s0)) 0 (a.1.length:Int) (A0.mk 0 (AE.mk (Morphism.mk [] []) []) [])) (fun s0=>
  some (A0.mk 0 (AE.mk (Morphism.mk [] []) []) [],10)) (fun v0=>some v0)
end
def E1 [Ev] (a:A7) (c:AA) (m:AE):Option (A0 × Int):=HU fun n=>A4 n a c m
def Nw [Ev] (a:A7) (c:AA) (m:AE):Option (A0 × Int):=HU fun n=>BZ n a c m
def EY [Ev] (t:AC) (p:Pattern) (c:AA) (e:AQ) (m:AE) (a:Bool):Option (A0 × Int):=
 (F5 t p c e m a).bind fun b=>
 if (!decide (b=0)) then
 some (A0.mk 0 (AE.mk (Morphism.mk [] []) []) [],b)
 else
 (E1 (A7.mk t e a) c m).bind fun d=>
 some (d.1,d.2)
def CX [Ev] (t:AC) (p:Pattern) (c:AA) (d:AQ) (m:AE) (a:Bool):Option (Bool × Int):=
 (EY t p c d m a).bind fun b=>
 if (decide (b.2=10)) then
 some (false,0)
 else
 some (decide (b.2=0),b.2)
def ED (a:Ne) (b:Int):Option Ne:=
 (slices_Clone_int a).bind fun c=>
 (B2 c [b]).bind fun d=>
 some d
def JX (o:AG) (q:Pattern) (m:Morphism) (b:Ne):Option (Ne × Bool):=
 (J7 q.Vars 0).bind fun f=>
 (J7 q.Vars false).bind fun g=>
 (forA (fun (i0:Int) (s0:Ne × d0)=>
 (AL b i0).bind fun i=>
 (AL s0.1 i0).bind fun p=>
 (AL s0.2 i0).bind fun r=>
 some (CJ s0.1 i0 i,CJ s0.2 i0 true)) 0 (b.length:Int) (f,g)).bind fun s0=>
 thenR (forR (ρ:=(Ne × Bool)) (fun (i2:Int) (s2:Ne × d0)=>
 (AL q.Slots i2).bind fun a=>
 (AL m.Nodes a.Node).bind fun j=>
 (AL o.h.Values j).bind fun k=>
 (AL k a.Attr).bind fun c=>
 if (decide (a.Term.Var<0)) then
 if (!decide ((A3 (c - a.Term.Add))=0)) then
 some (.ret ([],false))
 else
 some (.next (s2.1,s2.2))
 else
 (AL s2.2 a.Term.Var).bind fun l=>
 if (!l) then
 (AL s2.1 a.Term.Var).bind fun s=>
 (AL s2.2 a.Term.Var).bind fun t=>
 some (.next (CJ s2.1 a.Term.Var (A3 (c - a.Term.Add)),CJ s2.2 a.Term.Var true))
 else
 (AL s2.1 a.Term.Var).bind fun n=>
 if (!decide (n=(A3 (c - a.Term.Add)))) then
 some (.ret ([],false))
 else
 some (.next (s2.1,s2.2))) 0 (q.Slots.length:Int) (s0.1,s0.2)) (fun s2=>
 thenR (forR (ρ:=(Ne × Bool)) (fun (i5:Int) (_:Unit)=>
 (AL q.Tests i5).bind fun d=>
 (GR d s2.1).bind fun e=>
 if (!e) then
 some (.ret ([],false))
 else
 some (.next ())) 0 (q.Tests.length:Int) ()) (fun _=>
 some (s2.1,true)) (fun v5=>some v5)) (fun v2=>some v2)
def C4 [Ev] (a:AG) (c:AA) (m:AE):Option (List AE):=
 (FZ [(-1)] (c.Pattern.Graph.Nodes.length:Int)).bind fun j=>
 (FZ [(-1)] (c.Pattern.Graph.Edges.length:Int)).bind fun k=>
 (forA (fun (i0:Int) (s0:Morphism)=>
 (AL c.Map.Nodes i0).bind fun d=>
 (AL m.Morphism.Nodes i0).bind fun l=>
 (AL s0.Nodes d).bind fun o=>
 some (Morphism.mk (CJ s0.Nodes d l) s0.Edges)) 0 (c.Map.Nodes.length:Int) (Morphism.mk j k)).bind fun s0=>
 (forA (fun (i2:Int) (s2:Morphism)=>
 (AL c.Map.Edges i2).bind fun e=>
 (AL m.Morphism.Edges i2).bind fun n=>
 (AL s2.Edges e).bind fun p=>
 some (Morphism.mk s2.Nodes (CJ s2.Edges e n))) 0 (c.Map.Edges.length:Int) s0).bind fun s2=>
 (GN a.t c.Pattern.Graph a.h.Graph s2 a.injective).bind fun f=>
 (forA (fun (i4:Int) (s4:List AE)=>
 (AL f.1 i4).bind fun g=>
 (JX a c.Pattern g m.Vars).bind fun b=>
 if b.2 then
 (B2 s4 [AE.mk g b.1]).bind fun i=>
 some i
 else
 some s4) 0 (f.1.length:Int) []).bind fun s4=>
 some s4
def EP [Ev] (k:AA) (b:AA->ca):ca:=
 (b k).bind fun a=>
 some (!a)
def EX [Ev] (a:List AE) (f:AE->ca):dD:=
 thenR (forR (ρ:=Int) (fun (i0:Int) (_:Unit)=>
 (AL a i0).bind fun b=>
 (f b).bind fun c=>
 if c then
 some (.ret i0)
 else
 some (.next ())) 0 (a.length:Int) ()) (fun _=>
 some (-1)) (fun v0=>some v0)
def D8 [Ev] (a:List AE) (f:AE->ca):ca:=
 (EX a f).bind fun b=>
 some (decide (0<=b))
mutual
def BV [Ev]:Nat->AG->AA->AE->ca
 | 0,_,_,_=>none
 | n+1,a,c,m=>
  if (decide (c.Kind=2)) then
  (AL c.Kids 0).bind fun b=>
  (BT n b a m).bind fun d=>
  some (!d)
  else
  if (decide (c.Kind=3)) then
  (B1 c.Kids (fun y0=>EP y0 (fun y0=>BT n y0 a m))).bind fun e=>
  some (!e)
  else
  if (decide (c.Kind=4)) then
  (B1 c.Kids (fun y0=>BT n y0 a m)).bind fun f=>
  some f
  else
  if (decide (c.Kind=5)) then
  (C4 a c m).bind fun g=>
  (D8 g (fun y0=>CA n y0 a c)).bind fun h=>
  some h
  else
  some true
def BT [Ev]:Nat->AA->AG->AE->ca
 | 0,_,_,_=>none
 | n+1,k,c,b=>
  (BV n c k b).bind fun a=>
  some a
def CA [Ev]:Nat->AE->AG->AA->ca
 | 0,_,_,_=>none
 | n+1,b,e,d=>
  (AL d.Kids 0).bind fun c=>
  (BV n e c b).bind fun a=>
  some a
end
def _explain_scene__holds [Ev] (a:AG) (c:AA) (m:AE):ca:=HU fun n=>BV n a c m
def On [Ev] (k:AA) (b:AG) (a:AE):ca:=HU fun n=>BT n k b a
def Oo [Ev] (a:AE) (c:AG) (b:AA):ca:=HU fun n=>CA n a c b
def Ih (c:Ne) (b:Int) (a:Ne):Option AO:=
 (slices_Clone_int c).bind fun e=>
 (slices_Clone_int a).bind fun d=>
 some (AO.mk e b d)
mutual
def BP [Ev]:Nat->AG->AA->AE->Ne->Bool->Option (List AO)
 | 0,_,_,_,_,_=>none
 | n+1,d,c,m,a,b=>
  if (decide (c.Kind=2)) then
  (AL c.Kids 0).bind fun e=>
  (ED a 0).bind fun f=>
  (BP n d e m f (!b)).bind fun g=>
  some g
  else
  (if (decide (c.Kind=3)) then
  some (decide (c.Kind=3))
  else
  some (decide (c.Kind=4))).bind fun w1=>
  if w1 then
  (CB n d c m a b).bind fun h=>
  some h
  else
  if (decide (c.Kind=5)) then
  (CF n d c m a b).bind fun i=>
  some i
  else
  (Ih a 1 []).bind fun j=>
  some [j]
def CB [Ev]:Nat->AG->AA->AE->Ne->Bool->Option (List AO)
 | 0,_,_,_,_,_=>none
 | n+1,e,c,m,b,a=>
  thenR (forR (ρ:=(List AO)) (fun (i0:Int) (s0:List AO)=>
  (AL c.Kids i0).bind fun d=>
  if ((decide (c.Kind=3))==a) then
  (ED b i0).bind fun f=>
  (BP n e d m f a).bind fun g=>
  (B2 s0 g).bind fun h=>
  some (.next h)
  else
  (_explain_scene__holds e d m).bind fun i=>
  if (i==a) then
  (ED b i0).bind fun j=>
  (BP n e d m j a).bind fun k=>
  some (.ret k)
  else
  some (.next s0)) 0 (c.Kids.length:Int) []) (fun s0=>
  some s0) (fun v0=>some v0)
def CF [Ev]:Nat->AG->AA->AE->Ne->Bool->Option (List AO)
 | 0,_,_,_,_,_=>none
 | n+1,e,c,m,a,d=>
  (C4 e c m).bind fun f=>
  if ((!d)&&(decide ((f.length:Int)=0))) then
  (Ih a 3 m.Morphism.Nodes).bind fun h=>
  some [h]
  else
  thenR (forR (ρ:=(List AO)) (fun (i0:Int) (s0:List AO)=>
  (AL f i0).bind fun b=>
  if ((!d)&&(decide (i0<5))) then
  (Ih a 4 b.Morphism.Nodes).bind fun i=>
  (B2 s0 [i]).bind fun j=>
  (AL c.Kids 0).bind fun k=>
  (ED a 0).bind fun l=>
  (BP n e k b l false).bind fun o=>
  (B2 j o).bind fun p=>
  some (.next p)
  else
  (if d then ((AL c.Kids 0).bind fun q=>
  (_explain_scene__holds e q b).bind fun r=>
  some (r)) else some false).bind fun s=>
  if s then
  (Ih a 2 b.Morphism.Nodes).bind fun g=>
  (AL c.Kids 0).bind fun t=>
  if (!decide (t.Kind=1)) then
  (AL c.Kids 0).bind fun u=>
  (ED a 0).bind fun v=>
  (BP n e u b v true).bind fun w=>
  (B2 [g] w).bind fun x=>
  some (.ret x)
  else
  some (.ret [g])
  else
  some (.next s0)) 0 (f.length:Int) []) (fun s0=>
  some s0) (fun v0=>some v0)
end
def Ix [Ev] (d:AG) (c:AA) (m:AE) (a:Ne) (b:Bool):Option (List AO):=HU fun n=>BP n d c m a b
def Oq [Ev] (d:AG) (c:AA) (m:AE) (a:Ne) (b:Bool):Option (List AO):=HU fun n=>CB n d c m a b
def PQ [Ev] (d:AG) (c:AA) (m:AE) (a:Ne) (b:Bool):Option (List AO):=HU fun n=>CF n d c m a b
def IC [Ev] (t:AC) (p:Pattern) (c:AA) (d:AQ) (m:AE) (a:Bool):Option (List AO × Int):=
 (CX t p c d m a).bind fun b=>
 if (!decide (b.2=0)) then
 some ([],b.2)
 else
 if b.1 then
 some ([],10)
 else
 (Ix (AG.mk t d a) c m [] false).bind fun e=>
 some (e,0)
def Ig (l:List AO) (c:Ne) (b:Int) (a:Ne):ca:=
 (if (decide (0<(l.length:Int))) then ((AL l 0).bind fun d=>
 some (decide (d.Kind=b))) else some false).bind fun e=>
 (if e then ((AL l 0).bind fun f=>
 (slices_Equal_int f.Path c).bind fun g=>
 some (g)) else some false).bind fun h=>
 (if h then ((AL l 0).bind fun i=>
 (slices_Equal_int i.Nodes a).bind fun j=>
 some (j)) else some false).bind fun k=>
 some k
def Kx (s:Ne) (n:Int):Option Ne:=if s=[]∧0<=n∧n<=BS then some [] else none
def Lp (a:List Ne):Option Ne:=
 (forA (fun (i0:Int) (s0:Int)=>
 (AL a i0).bind fun b=>
 if (decide ((A3 (s0+(b.length:Int)))<0)) then
 none
 else
 some (A3 (s0+(b.length:Int)))) 0 (a.length:Int) 0).bind fun s0=>
 (Kx [] s0).bind fun c=>
 (forA (fun (i2:Int) (s2:Ne)=>
 (AL a i2).bind fun d=>
 (B2 s2 d).bind fun e=>
 some e) 0 (a.length:Int) c).bind fun s2=>
 some s2
def I8 (a:Ne) (b:Ne):Option Ne:=
 (Lp [a,b]).bind fun e=>
 (slices_Sort_int e).bind fun c=>
 (slices_Compact_int c).bind fun d=>
 some d
def GL [Ev] (a:Ne) (d:Int->Option Ne):Option Ne:=
 (forA (fun (i0:Int) (s0:Ne)=>
 (AL a i0).bind fun b=>
 (d b).bind fun c=>
 (forA (fun (i2:Int) (s2:Ne)=>
 (AL c i2).bind fun e=>
 (B2 s2 [A3 (b+e)]).bind fun f=>
 some f) 0 (c.length:Int) s0).bind fun s2=>
 some s2) 0 (a.length:Int) []).bind fun s0=>
 (I8 s0 []).bind fun g=>
 some g
mutual
def A2 [Ev]:Nat->AG->(List AO)->AA->AE->Ne->Bool->Option Ne
 | 0,_,_,_,_,_,_=>none
 | n+1,d,l,c,m,b,a=>
  if (decide (c.Kind=2)) then
  (AL c.Kids 0).bind fun f=>
  (ED b 0).bind fun g=>
  (A2 n d l f m g (!a)).bind fun h=>
  some h
  else
  if (decide (c.Kind=5)) then
  (BL n d l c m b a).bind fun i=>
  some i
  else
  if (decide (c.Kind=1)) then
  (Ig l b 1 []).bind fun j=>
  if j then
  some [1]
  else
  some []
  else
  if ((decide (c.Kind=3))==a) then
  (forA (fun (i1:Int) (s1:Ne)=>
  (AL c.Kids i1).bind fun k=>
  (GL s1 (fun y0=>BH n y0 d l k m b i1 a)).bind fun o=>
  some o) 0 (c.Kids.length:Int) [0]).bind fun s1=>
  some s1
  else
  (forA (fun (i3:Int) (s3:Ne)=>
  (AL c.Kids i3).bind fun e=>
  (_explain_scene__holds d e m).bind fun p=>
  if (p==a) then
  (ED b i3).bind fun q=>
  (A2 n d l e m q a).bind fun r=>
  (I8 s3 r).bind fun s=>
  some s
  else
  some s3) 0 (c.Kids.length:Int) []).bind fun s3=>
  some s3
def BL [Ev]:Nat->AG->(List AO)->AA->AE->Ne->Bool->Option Ne
 | 0,_,_,_,_,_,_=>none
 | n+1,e,l,c,m,a,f=>
  (C4 e c m).bind fun b=>
  (AL c.Kids 0).bind fun d=>
  if ((!f)&&(decide ((b.length:Int)=0))) then
  (Ig l a 3 m.Morphism.Nodes).bind fun i=>
  if i then
  some [1]
  else
  some []
  else
  if (!f) then
  (slc b 0 (min (b.length:Int) 5)).bind fun h=>
  (forA (fun (i0:Int) (s0:Ne)=>
  (AL h i0).bind fun j=>
  (GL s0 (fun y0=>BD n y0 l a j e d)).bind fun k=>
  some k) 0 (h.length:Int) [0]).bind fun s0=>
  some s0
  else
  (forA (fun (i2:Int) (s2:Ne)=>
  (AL b i2).bind fun g=>
  (Ig l a 2 g.Morphism.Nodes).bind fun o=>
  (if (!o) then some true else ((_explain_scene__holds e d g).bind fun p=>
  some (!p))).bind fun q=>
  if q then
  some s2
  else
  if (decide (d.Kind=1)) then
  (I8 s2 [1]).bind fun r=>
  some r
  else
  (GL [1] (fun y0=>BE n y0 e l d g a)).bind fun s=>
  (I8 s2 s).bind fun t=>
  some t) 0 (b.length:Int) []).bind fun s2=>
  some s2
def BH [Ev]:Nat->Int->AG->(List AO)->AA->AE->Ne->Int->Bool->Option Ne
 | 0,_,_,_,_,_,_,_,_=>none
 | n+1,d,f,e,j,i,g,k,h=>
  (slc e d e.length).bind fun a=>
  (ED g k).bind fun b=>
  (A2 n f a j i b h).bind fun c=>
  some c
def BD [Ev]:Nat->Int->(List AO)->Ne->AE->AG->AA->Option Ne
 | 0,_,_,_,_,_,_=>none
 | n+1,a,e,f,g,h,i=>
  (slc e a e.length).bind fun b=>
  (Ig b f 4 g.Morphism.Nodes).bind fun c=>
  if (!c) then
  some []
  else
  (GL [1] (fun y0=>BA n y0 h e a i g f)).bind fun d=>
  some d
def BA [Ev]:Nat->Int->AG->(List AO)->Int->AA->AE->Ne->Option Ne
 | 0,_,_,_,_,_,_,_=>none
 | n+1,k,f,d,h,e,g,i=>
  (slc d (A3 (h+k)) d.length).bind fun a=>
  (ED i 0).bind fun b=>
  (A2 n f a e g b false).bind fun c=>
  some c
def BE [Ev]:Nat->Int->AG->(List AO)->AA->AE->Ne->Option Ne
 | 0,_,_,_,_,_,_=>none
 | n+1,d,g,e,i,f,h=>
  (slc e d e.length).bind fun a=>
  (ED h 0).bind fun b=>
  (A2 n g a i f b true).bind fun c=>
  some c
end
def HQ [Ev] (d:AG) (l:List AO) (c:AA) (m:AE) (a:Ne) (b:Bool):Option Ne:=HU fun n=>A2 n d l c m a b
def OU [Ev] (d:AG) (l:List AO) (c:AA) (m:AE) (a:Ne) (b:Bool):Option Ne:=HU fun n=>BL n d l c m a b
def N9 [Ev] (a:Int) (b:AG) (e:List AO) (g:AA) (f:AE) (c:Ne) (h:Int) (d:Bool):Option Ne:=HU fun n=>BH n a b e g f c h d
def Nx [Ev] (a:Int) (b:List AO) (d:Ne) (f:AE) (e:AG) (c:AA):Option Ne:=HU fun n=>BD n a b d f e c
def NG [Ev] (k:Int) (a:AG) (c:List AO) (e:Int) (d:AA) (b:AE) (f:Ne):Option Ne:=HU fun n=>BA n k a c e d b f
def Ny [Ev] (a:Int) (b:AG) (d:List AO) (f:AA) (e:AE) (c:Ne):Option Ne:=HU fun n=>BE n a b d f e c
def I7 [Ev] (t:AC) (p:Pattern) (c:AA) (d:AQ) (m:AE) (a:Bool) (l:List AO):ca:=
 (CX t p c d m a).bind fun b=>
 (if ((decide (b.2=0))&&(!b.1)) then ((HQ (AG.mk t d a) l c m [] false).bind fun e=>
 (slices_Contains_int e (l.length:Int)).bind fun f=>
 some (f)) else some false).bind fun g=>
 some g
def EE [Ev]:Nat->Ne->Int->Option (List Ne)
 | 0,_,_=>none
 | n+1,l,b=>
  if (decide (b=0)) then
  some [[]]
  else
  (forA (fun (i0:Int) (s0:List Ne)=>
  (slc l (A3 (i0+1)) l.length).bind fun c=>
  (EE n c (A3 (b - 1))).bind fun a=>
  (forA (fun (i2:Int) (s2:List Ne)=>
  (AL a i2).bind fun d=>
  (AL l i0).bind fun e=>
  (B2 [e] d).bind fun f=>
  (B2 s2 [f]).bind fun g=>
  some g) 0 (a.length:Int) s0).bind fun s2=>
  some s2) 0 (l.length:Int) []).bind fun s0=>
  some s0
def K4 [Ev] (l:Ne) (a:Int):Option (List Ne):=HU fun n=>EE n l a
def ID (a:AQ) (m:AE) (j:Ne):Option (AQ × AE):=
 (J7 (a.Graph.Edges.length:Int) 0).bind fun b=>
 (forA (fun (i0:Int) (s0:AQ × Ne)=>
 (AL a.Graph.Edges i0).bind fun c=>
 (slices_Contains_int j i0).bind fun d=>
 if (!d) then
 (AL s0.2 i0).bind fun i=>
 (B2 s0.1.Graph.Edges [c]).bind fun e=>
 some (AQ.mk (Graph.mk s0.1.Graph.Nodes e) s0.1.Values,CJ s0.2 i0 (s0.1.Graph.Edges.length:Int))
 else
 some (s0.1,s0.2)) 0 (a.Graph.Edges.length:Int) (AQ.mk (Graph.mk a.Graph.Nodes []) a.Values,b)).bind fun s0=>
 (forA (fun (i2:Int) (s2:AE)=>
 (AL m.Morphism.Edges i2).bind fun f=>
 (AL s0.2 f).bind fun g=>
 (B2 s2.Morphism.Edges [g]).bind fun h=>
 some (AE.mk (Morphism.mk s2.Morphism.Nodes h) s2.Vars)) 0 (m.Morphism.Edges.length:Int) (AE.mk (Morphism.mk m.Morphism.Nodes []) m.Vars)).bind fun s2=>
 some (s0.1,s2)
def FM [Ev] (t:AC) (p:Pattern) (c:AA) (a:AQ) (m:AE):Option (Ne × Int):=
 (CX t p c a m true).bind fun b=>
 if (!decide (b.2=0)) then
 some ([],b.2)
 else
 (if (!decide (c.Kind=2)) then some true else ((AL c.Kids 0).bind fun h=>
 some (!decide (h.Kind=5)))).bind fun i=>
 if i then
 some ([],8)
 else
 if (decide (12<(a.Graph.Edges.length:Int))) then
 some ([],3)
 else
 (forA (fun (i0:Int) (s0:Ne)=>
 (slices_Contains_int m.Morphism.Edges i0).bind fun j=>
 if (!j) then
 (B2 s0 [i0]).bind fun k=>
 some k
 else
 some s0) 0 (a.Graph.Edges.length:Int) []).bind fun s0=>
 thenR (forR (ρ:=(Ne × Int)) (fun (i2:Int) (_:Unit)=>
 (K4 s0 i2).bind fun d=>
 thenR (forR (ρ:=(Ne × Int)) (fun (i4:Int) (_:Unit)=>
 (AL d i4).bind fun e=>
 (ID a m e).bind fun f=>
 (CX t p c f.1 f.2 true).bind fun g=>
 if ((decide (g.2=0))&&g.1) then
 some (.ret (e,0))
 else
 some (.next ())) 0 (d.length:Int) ()) (fun _=>
 some (.next ())) (fun v4=>some (.ret v4))) 0 4 ()) (fun _=>
 some ([],10)) (fun v2=>some v2)
def N5 :Option AC:=
 some (AC.mk [CU.mk (⟨#[65,99,99,111,117,110,116]⟩:ByteArray) (-1) true [Attr.mk (⟨#[98,97,108,97,110,99,101]⟩:ByteArray) (-1000) 1000 []],CU.mk (⟨#[67,97,115,104]⟩:ByteArray) 0 false [],CU.mk (⟨#[76,111,97,110]⟩:ByteArray) 0 false [Attr.mk (⟨#[115,116,97,116,101]⟩:ByteArray) 0 1 [(⟨#[111,112,101,110]⟩:ByteArray),(⟨#[99,108,111,115,101,100]⟩:ByteArray)]],CU.mk (⟨#[80,101,114,115,111,110]⟩:ByteArray) (-1) false []] [DD.mk (⟨#[111,119,110,115]⟩:ByteArray) 3 0 0 (-1) 1 1,DD.mk (⟨#[112,97,121,115]⟩:ByteArray) 1 1 0 (-1) 0 (-1)])
def N3 :Option (Ht × KG):=
 (some (AA.mk 2 [AA.mk 5 [AA.mk 1 [] (Morphism.mk [] []) (Pattern.mk (Graph.mk [] []) [] 0 [])] (Morphism.mk [0,1] [0]) (Pattern.mk (Graph.mk [3,0,0] [DK.mk 0 0 1,DK.mk 0 0 2]) [] 0 [])] (Morphism.mk [] []) (Pattern.mk (Graph.mk [] []) [] 0 []))).bind fun a=>
 some (Ht.mk (Pattern.mk (Graph.mk [3,0] [DK.mk 0 0 1]) [] 0 []) a,KG.mk (AQ.mk (Graph.mk [3,1,1] [DK.mk 0 0 1,DK.mk 0 0 2]) [[],[10],[5]]) (AE.mk (Morphism.mk [0,1] [0]) []) true)
def strconv_Itoa (i:Int):Option ByteArray:=if 0<=i∧i<100 then some (Yo i.toNat) else none
def strings_Join (l:List ByteArray) (s:ByteArray):Option ByteArray:=if l.length<=BS∧(JK l s).size<=BS then some (JK l s) else none
def Js [Ev] (t:AC) (g:AQ) (l:List AO):Option (List ByteArray × Int):=
 (Hs t g).bind fun o=>
 if (!decide (o.2=0)) then
 some ([],o.2)
 else
 thenR (forR (ρ:=(List ByteArray × Int)) (fun (i0:Int) (s0:List ByteArray)=>
 (AL l i0).bind fun a=>
 if ((decide (a.Kind<1))||(decide (4<a.Kind))) then
 some (.ret ([],6))
 else
 (forA (fun (i2:Int) (s2:List ByteArray)=>
 (AL a.Path i2).bind fun p=>
 (strconv_Itoa p).bind fun q=>
 (B2 s2 [q]).bind fun r=>
 some r) 0 (a.Path.length:Int) []).bind fun s2=>
 if (decide (0<(s2.length:Int))) then
 (strings_Join s2 (⟨#[46]⟩:ByteArray)).bind fun s=>
 (AL [(⟨#[116,114,117,101]⟩:ByteArray),(⟨#[102,111,117,110,100]⟩:ByteArray),(⟨#[109,105,115,115,105,110,103]⟩:ByteArray),(⟨#[102,97,105,108,115]⟩:ByteArray)] (A3 (a.Kind - 1))).bind fun h=>
 thenR (forR (ρ:=(List ByteArray × Int)) (fun (i4:Int) (s4:List ByteArray)=>
 (AL a.Nodes i4).bind fun b=>
 if ((decide (b<0))||(decide ((g.Graph.Nodes.length:Int)<=b))) then
 some (.ret ([],6))
 else
 (strconv_Itoa b).bind fun i=>
 (M3 (⟨#[110]⟩:ByteArray) i).bind fun j=>
 (M3 j (⟨#[58]⟩:ByteArray)).bind fun k=>
 (AL g.Graph.Nodes b).bind fun m=>
 (AL t.Nodes m).bind fun n=>
 (M3 k n.Name).bind fun c=>
 (B2 s4 [c]).bind fun d=>
 some (.next d)) 0 (a.Nodes.length:Int) [s,h]) (fun s4=>
 (strings_Join s4 (⟨#[32]⟩:ByteArray)).bind fun e=>
 (B2 s0 [e]).bind fun f=>
 some (.next f)) (fun v4=>some (.ret v4))
 else
 (AL [(⟨#[116,114,117,101]⟩:ByteArray),(⟨#[102,111,117,110,100]⟩:ByteArray),(⟨#[109,105,115,115,105,110,103]⟩:ByteArray),(⟨#[102,97,105,108,115]⟩:ByteArray)] (A3 (a.Kind - 1))).bind fun h=>
 thenR (forR (ρ:=(List ByteArray × Int)) (fun (i4:Int) (s4:List ByteArray)=>
 (AL a.Nodes i4).bind fun b=>
 if ((decide (b<0))||(decide ((g.Graph.Nodes.length:Int)<=b))) then
 some (.ret ([],6))
 else
 (strconv_Itoa b).bind fun i=>
 (M3 (⟨#[110]⟩:ByteArray) i).bind fun j=>
 (M3 j (⟨#[58]⟩:ByteArray)).bind fun k=>
 (AL g.Graph.Nodes b).bind fun m=>
 (AL t.Nodes m).bind fun n=>
 (M3 k n.Name).bind fun c=>
 (B2 s4 [c]).bind fun d=>
 some (.next d)) 0 (a.Nodes.length:Int) [(⟨#[45]⟩:ByteArray),h]) (fun s4=>
 (strings_Join s4 (⟨#[32]⟩:ByteArray)).bind fun e=>
 (B2 s0 [e]).bind fun f=>
 some (.next f)) (fun v4=>some (.ret v4))) 0 (l.length:Int) []) (fun s0=>
 some (s0,0)) (fun v0=>some v0)
def slices_Equal_string (a:List ByteArray) (b:List ByteArray):ca:=
 if (!decide ((a.length:Int)=(b.length:Int))) then
 some false
 else
 thenR (forR (ρ:=Bool) (fun (i0:Int) (_:Unit)=>
 (AL a i0).bind fun c=>
 (AL b i0).bind fun d=>
 if (!(c==d)) then
 some (.ret false)
 else
 some (.next ())) 0 (a.length:Int) ()) (fun _=>
 some true) (fun v0=>some v0)
def GF [Ev] :ca:=
 (N5).bind fun b=>
 (N3).bind fun a=>
 (IC b a.1.P a.1.C a.2.H a.2.M true).bind fun c=>
 (Js b a.2.H c.1).bind fun d=>
 (FM b a.1.P a.1.C a.2.H a.2.M).bind fun e=>
 (if (((decide (c.2=0))&&(decide (d.2=0)))&&(decide (e.2=0))) then ((slices_Equal_string d.1 [(⟨#[48,32,102,111,117,110,100,32,110,48,58,80,101,114,115,111,110,32,110,49,58,67,97,115,104,32,110,50,58,67,97,115,104]⟩:ByteArray)]).bind fun f=>
 some (f)) else some false).bind fun g=>
 (if g then ((slices_Equal_int e.1 [1]).bind fun h=>
 some (h)) else some false).bind fun i=>
 (if i then ((I7 b a.1.P a.1.C a.2.H a.2.M true c.1).bind fun j=>
 some (j)) else some false).bind fun k=>
 some k
def Me [Ev] (t:AC):ca:=
 if ((decide (20<(t.Nodes.length:Int)))||(decide (30<(t.Edges.length:Int)))) then
 some false
 else
 thenR (forR (ρ:=Bool) (fun (i0:Int) (s0:Int)=>
 (AL t.Nodes i0).bind fun b=>
 (if (decide (30<(A3 (s0+(b.Attrs.length:Int))))) then some true else ((AL t.Nodes i0).bind fun d=>
 some (decide (40<(d.Name.size:Int))))).bind fun e=>
 if e then
 some (.ret false)
 else
 thenR (Iw (ρ:=Bool) (fun (s2:Int)=>
 (AL t.Nodes i0).bind fun f=>
 if (decide (s2<(f.Attrs.length:Int))) then
 (AL t.Nodes i0).bind fun g=>
 (AL g.Attrs s2).bind fun a=>
 if ((decide (40<(a.Name.size:Int)))||(decide (25<(a.Names.length:Int)))) then
 some (.ret false)
 else
 thenR (Iw (ρ:=Bool) (fun (s4:Int)=>
 if (decide (s4<(a.Names.length:Int))) then
 (AL a.Names s4).bind fun h=>
 if (decide (40<(h.size:Int))) then
 some (.ret false)
 else
 some (.next (A3 (s4+1)))
 else
 some (.brk s4)) 0) (fun s4=>
 some (.next (A3 (s2+1)))) (fun v4=>some (.ret v4))
 else
 some (.brk s2)) 0) (fun s2=>
 some (.next (A3 (s0+(b.Attrs.length:Int))))) (fun v2=>some (.ret v2))) 0 (t.Nodes.length:Int) 0) (fun s0=>
 thenR (forR (ρ:=Bool) (fun (i6:Int) (_:Unit)=>
 (AL t.Edges i6).bind fun c=>
 if (decide (40<(c.Name.size:Int))) then
 some (.ret false)
 else
 some (.next ())) 0 (t.Edges.length:Int) ()) (fun _=>
 some true) (fun v6=>some v6)) (fun v0=>some v0)
def J9 (g:Graph):ca:=
 some ((decide ((g.Nodes.length:Int)<=45))&&(decide ((g.Edges.length:Int)<=90)))
def Mg (p:Pattern):ca:=
 (J9 p.Graph).bind fun a=>
 some ((a&&(decide ((p.Slots.length:Int)<=15)))&&(decide ((p.Tests.length:Int)<=15)))
def PL (m:Morphism) (n:Int):ca:=
 some (decide ((A3 ((m.Nodes.length:Int)+(m.Edges.length:Int)))<=n))
def GH [Ev]:Nat->AA->Int->dD
 | 0,_,_=>none
 | n+1,c,a=>
  (Mg c.Pattern).bind fun b=>
  (if (!b) then some true else ((PL c.Map 140).bind fun d=>
  some (!d))).bind fun e=>
  if e then
  some (-1)
  else
  thenR (Iw (ρ:=Int) (fun (s0:Int × Int)=>
  if ((decide (s0.2<(c.Kids.length:Int)))&&(decide (0<=s0.1))) then
  (AL c.Kids s0.2).bind fun f=>
  (GH n f s0.1).bind fun g=>
  some (.next (g,A3 (s0.2+1)))
  else
  some (.brk (s0.1,s0.2))) (A3 (a - 1),0)) (fun s0=>
  some s0.1) (fun v0=>some v0)
def QO [Ev] (c:AA) (a:Int):dD:=HU fun n=>GH n c a
def Nq [Ev] (c:AA):ca:=
 (QO c 40).bind fun a=>
 some (decide (0<=a))
def Mf (a:AQ):ca:=
 (J9 a.Graph).bind fun c=>
 if ((!c)||(decide (45<(a.Values.length:Int)))) then
 some false
 else
 thenR (forR (ρ:=Bool) (fun (i0:Int) (_:Unit)=>
 (AL a.Values i0).bind fun b=>
 if (decide (12<(b.length:Int))) then
 some (.ret false)
 else
 some (.next ())) 0 (a.Values.length:Int) ()) (fun _=>
 some true) (fun v0=>some v0)
def LZ (n:Int):ca:=
 some ((decide (0<=n))&&(decide (n<=99)))
def Nc (e:DK) (a:Int):ca:=
 (LZ e.Type').bind fun b=>
 some ((((b&&(decide (0<=e.From)))&&(decide (e.From<a)))&&(decide (0<=e.To)))&&(decide (e.To<a)))
def GG (g:Graph):dD:=
 if ((decide (40<(g.Nodes.length:Int)))||(decide (80<(g.Edges.length:Int)))) then
 some 3
 else
 thenR (forR (ρ:=Int) (fun (i0:Int) (_:Unit)=>
 (AL g.Nodes i0).bind fun a=>
 (LZ a).bind fun b=>
 if (!b) then
 some (.ret 6)
 else
 some (.next ())) 0 (g.Nodes.length:Int) ()) (fun _=>
 thenR (forR (ρ:=Int) (fun (i2:Int) (_:Unit)=>
 (AL g.Edges i2).bind fun c=>
 (Nc c (g.Nodes.length:Int)).bind fun d=>
 if (!d) then
 some (.ret 6)
 else
 some (.next ())) 0 (g.Edges.length:Int) ()) (fun _=>
 some 0) (fun v2=>some v2)) (fun v0=>some v0)
def OG (t:GK):Option ByteArray:=
 if (decide (t.Kind=3)) then
 (M3 (⟨#[34]⟩:ByteArray) t.Text).bind fun a=>
 (M3 a (⟨#[34]⟩:ByteArray)).bind fun b=>
 some b
 else
 some t.Text
def LD (c:Int):ca:=
 some (((decide (97<=c))&&(decide (c<=122)))||((decide (65<=c))&&(decide (c<=90))))
def JY (c:Int):ca:=
 some ((decide (48<=c))&&(decide (c<=57)))
def Nl [Ev] (a:ByteArray) (c:Int) (b:Bool):dD:=
 thenR (Iw (ρ:=Int) (fun (s0:Int)=>
 (if (decide ((A3 (c+s0))<(a.size:Int))) then ((sidx a (A3 (c+s0))).bind fun d=>
 (JY d).bind fun e=>
 (if e then some true else ((if (!b) then ((sidx a (A3 (c+s0))).bind fun f=>
 (LD f).bind fun g=>
 (if g then some true else ((sidx a (A3 (c+s0))).bind fun h=>
 some (decide (h=95)))).bind fun i=>
 some (i)) else some false).bind fun j=>
 some (j))).bind fun k=>
 some (k)) else some false).bind fun l=>
 if l then
 some (.next (A3 (s0+1)))
 else
 some (.brk s0)) 0) (fun s0=>
 some s0) (fun v0=>some v0)
def LE [Ev] (b:ByteArray) (c:Int):dD:=
 thenR (Iw (ρ:=Int) (fun (s0:Int)=>
 if (decide ((A3 (c+s0))<(b.size:Int))) then
 (sidx b (A3 (c+s0))).bind fun a=>
 if (decide (a=34)) then
 some (.ret (A3 (s0+1)))
 else
 if ((decide (a<32))||(decide (126<a))) then
 some (.ret 0)
 else
 some (.next (A3 (s0+1)))
 else
 some (.brk s0)) 1) (fun s0=>
 some 0) (fun v0=>some v0)
def Na :Option (List ByteArray):=
 some [(⟨#[45,62]⟩:ByteArray),(⟨#[60,61]⟩:ByteArray),(⟨#[62,61]⟩:ByteArray),(⟨#[61,61]⟩:ByteArray),(⟨#[33,61]⟩:ByteArray),(⟨#[123]⟩:ByteArray),(⟨#[125]⟩:ByteArray),(⟨#[40]⟩:ByteArray),(⟨#[41]⟩:ByteArray),(⟨#[91]⟩:ByteArray),(⟨#[93]⟩:ByteArray),(⟨#[44]⟩:ByteArray),(⟨#[59]⟩:ByteArray),(⟨#[58]⟩:ByteArray),(⟨#[61]⟩:ByteArray),(⟨#[43]⟩:ByteArray),(⟨#[45]⟩:ByteArray),(⟨#[42]⟩:ByteArray),(⟨#[60]⟩:ByteArray),(⟨#[62]⟩:ByteArray),(⟨#[33]⟩:ByteArray),(⟨#[38]⟩:ByteArray),(⟨#[124]⟩:ByteArray),(⟨#[46]⟩:ByteArray),(⟨#[63]⟩:ByteArray)]
def Nk [Ev] (a:ByteArray) (d:Int):Option (GK × Int × Int):=
 (sidx a d).bind fun c=>
 (LD c).bind fun i=>
 (if i then some true else ((JY c).bind fun j=>
 some (j))).bind fun k=>
 if k then
 (JY c).bind fun l=>
 (Nl a d l).bind fun f=>
 (JY c).bind fun m=>
 (if m then
 some (2,9)
 else
 some (1,20)).bind fun w1=>
 if (decide (w1.2<f)) then
 some (GK.mk 0 (⟨#[]⟩:ByteArray) 0,0,3)
 else
 (sslc a d (A3 (d+f))).bind fun n=>
 some (GK.mk w1.1 n 0,f,0)
 else
 if (decide (c=34)) then
 (LE a d).bind fun e=>
 if (decide (e=0)) then
 some (GK.mk 0 (⟨#[]⟩:ByteArray) 0,0,2)
 else
 if (decide (60<(A3 (e - 2)))) then
 some (GK.mk 0 (⟨#[]⟩:ByteArray) 0,0,3)
 else
 (sslc a (A3 (d+1)) (A3 ((A3 (d+e)) - 1))).bind fun o=>
 some (GK.mk 3 o 0,e,0)
 else
 (Na).bind fun b=>
 thenR (forR (ρ:=(GK × Int × Int)) (fun (i0:Int) (s0:GK)=>
 (AL b i0).bind fun p=>
 (if (decide ((A3 (d+(p.size:Int)))<=(a.size:Int))) then ((AL b i0).bind fun q=>
 (sslc a d (A3 (d+(q.size:Int)))).bind fun r=>
 (AL b i0).bind fun s=>
 some (r==s)) else some false).bind fun t=>
 if t then
 (AL b i0).bind fun g=>
 (AL b i0).bind fun h=>
 some (.ret (GK.mk 4 g 0,(h.size:Int),0))
 else
 some (.next s0)) 0 (b.length:Int) (GK.mk 0 (⟨#[]⟩:ByteArray) 0)) (fun s0=>
 some (GK.mk 0 (⟨#[]⟩:ByteArray) 0,0,2)) (fun v0=>some v0)
def NZ [Ev] (t:GK):ca:=
 (OG t).bind fun b=>
 if (b==(⟨#[]⟩:ByteArray)) then
 some false
 else
 (Nk b 0).bind fun a=>
 some (((decide (a.2.2=0))&&(decide (a.2.1=(b.size:Int))))&&(decide (a.1.Kind=t.Kind)))
def H3 [Ev] (a:ByteArray):ca:=
 (NZ (GK.mk 1 a 0)).bind fun b=>
 some b
def E0 (n:Int) (b:Int) (a:Int):ca:=
 some ((decide (b<=n))&&(decide (n<=a)))
def H5 [Ev]:Nat->AC->Int->Option (List Attr)
 | 0,_,_=>none
 | n+1,t,a=>
  if (decide (a<0)) then
  some []
  else
  (AL t.Nodes a).bind fun b=>
  (H5 n t b.Parent).bind fun c=>
  (B2 [] c).bind fun d=>
  (AL t.Nodes a).bind fun e=>
  (B2 d e.Attrs).bind fun f=>
  some f
def Nb [Ev] (t:AC) (a:Int):Option (List Attr):=HU fun n=>H5 n t a
def L3 [Ev] (l:List ByteArray):dD:=
 if (decide (20<(l.length:Int))) then
 some 3
 else
 thenR (forR (ρ:=Int) (fun (i0:Int) (_:Unit)=>
 (AL l i0).bind fun a=>
 (H3 a).bind fun b=>
 if (!b) then
 some (.ret 2)
 else
 thenR (forR (ρ:=Int) (fun (i2:Int) (_:Unit)=>
 (AL l i2).bind fun c=>
 (AL l i0).bind fun d=>
 if (c==d) then
 some (.ret 5)
 else
 some (.next ())) 0 i0 ()) (fun _=>
 some (.next ())) (fun v2=>some (.ret v2))) 0 (l.length:Int) ()) (fun _=>
 some 0) (fun v0=>some v0)
def JN [Ev] (a:Attr):dD:=
 if (decide ((a.Names.length:Int)=0)) then
 (E0 a.Low (-1000000) 1000000).bind fun c=>
 (if (!c) then some true else ((E0 a.High a.Low 1000000).bind fun d=>
 some (!d))).bind fun e=>
 if e then
 some 6
 else
 some 0
 else
 (L3 a.Names).bind fun b=>
 if (!decide (b=0)) then
 some b
 else
 if ((!decide (a.Low=0))||(!decide (a.High=(A3 ((a.Names.length:Int) - 1))))) then
 some 6
 else
 some 0
def Mz [Ev] (t:AC) (c:Int):dD:=
 (AL t.Nodes c).bind fun b=>
 (H3 b.Name).bind fun e=>
 if (!e) then
 some 2
 else
 thenR (forR (ρ:=Int) (fun (i0:Int) (_:Unit)=>
 (AL t.Nodes i0).bind fun f=>
 if (f.Name==b.Name) then
 some (.ret 5)
 else
 some (.next ())) 0 c ()) (fun _=>
 (E0 b.Parent (-1) (A3 (c - 1))).bind fun g=>
 if (!g) then
 some 6
 else
 (Nb t c).bind fun a=>
 if ((decide (4<(b.Attrs.length:Int)))||(decide (8<(a.length:Int)))) then
 some 3
 else
 thenR (forR (ρ:=Int) (fun (i2:Int) (_:Unit)=>
 (AL a i2).bind fun h=>
 (H3 h.Name).bind fun i=>
 if (!i) then
 some (.ret 2)
 else
 thenR (forR (ρ:=Int) (fun (i4:Int) (_:Unit)=>
 (AL a i4).bind fun j=>
 (AL a i2).bind fun k=>
 if (j.Name==k.Name) then
 some (.ret 5)
 else
 some (.next ())) 0 i2 ()) (fun _=>
 (AL a i2).bind fun l=>
 (JN l).bind fun d=>
 if (!decide (d=0)) then
 some (.ret d)
 else
 some (.next ())) (fun v4=>some (.ret v4))) (A3 ((a.length:Int) - (b.Attrs.length:Int))) (a.length:Int) ()) (fun _=>
 some 0) (fun v2=>some v2)) (fun v0=>some v0)
def Kd (b:Int) (a:Int):ca:=
 (E0 b 0 40).bind fun f=>
 (if f then ((if (decide (a=(-1))) then some true else ((E0 a b 40).bind fun c=>
 some (c))).bind fun d=>
 some (d)) else some false).bind fun e=>
 some e
def My [Ev] (t:AC) (b:Int):dD:=
 (AL t.Edges b).bind fun a=>
 (H3 a.Name).bind fun c=>
 if (!c) then
 some 2
 else
 thenR (forR (ρ:=Int) (fun (i0:Int) (_:Unit)=>
 (AL t.Edges i0).bind fun d=>
 if (d.Name==a.Name) then
 some (.ret 5)
 else
 some (.next ())) 0 b ()) (fun _=>
 (E0 a.From 0 (A3 ((t.Nodes.length:Int) - 1))).bind fun e=>
 (if (!e) then some true else ((E0 a.To 0 (A3 ((t.Nodes.length:Int) - 1))).bind fun f=>
 some (!f))).bind fun g=>
 (if g then some true else ((Kd a.OutLow a.OutHigh).bind fun h=>
 some (!h))).bind fun i=>
 (if i then some true else ((Kd a.InLow a.InHigh).bind fun j=>
 some (!j))).bind fun k=>
 if k then
 some 6
 else
 some 0) (fun v0=>some v0)
def IZ [Ev] (t:AC):Option (ByteArray × Int):=
 if (decide ((t.Nodes.length:Int)=0)) then
 some ((⟨#[]⟩:ByteArray),7)
 else
 if ((decide (12<(t.Nodes.length:Int)))||(decide (20<(t.Edges.length:Int)))) then
 some ((⟨#[]⟩:ByteArray),3)
 else
 thenR (forR (ρ:=(ByteArray × Int)) (fun (i0:Int) (_:Unit)=>
 (Mz t i0).bind fun a=>
 if (!decide (a=0)) then
 (AL t.Nodes i0).bind fun c=>
 some (.ret (c.Name,a))
 else
 some (.next ())) 0 (t.Nodes.length:Int) ()) (fun _=>
 thenR (forR (ρ:=(ByteArray × Int)) (fun (i2:Int) (_:Unit)=>
 (My t i2).bind fun b=>
 if (!decide (b=0)) then
 (AL t.Edges i2).bind fun d=>
 some (.ret (d.Name,b))
 else
 some (.next ())) 0 (t.Edges.length:Int) ()) (fun _=>
 some ((⟨#[]⟩:ByteArray),0)) (fun v2=>some v2)) (fun v0=>some v0)
def JZ (t:AC) (g:Graph):ca:=
 thenR (forR (ρ:=Bool) (fun (i0:Int) (_:Unit)=>
 (AL g.Nodes i0).bind fun a=>
 (if (decide (a<0)) then some true else ((AL g.Nodes i0).bind fun b=>
 some (decide ((t.Nodes.length:Int)<=b)))).bind fun c=>
 if c then
 some (.ret false)
 else
 some (.next ())) 0 (g.Nodes.length:Int) ()) (fun _=>
 thenR (forR (ρ:=Bool) (fun (i2:Int) (_:Unit)=>
 (AL g.Edges i2).bind fun d=>
 (if (decide (d.Type'<0)) then some true else ((AL g.Edges i2).bind fun e=>
 some (decide ((t.Edges.length:Int)<=e.Type')))).bind fun f=>
 if f then
 some (.ret false)
 else
 some (.next ())) 0 (g.Edges.length:Int) ()) (fun _=>
 some true) (fun v2=>some v2)) (fun v0=>some v0)
def Ke [Ev] (t:AC) (a:Int) (b:Int):dD:=
 (IZ t).bind fun c=>
 if (!decide (c.2=0)) then
 some c.2
 else
 (E0 a 0 (A3 ((t.Nodes.length:Int) - 1))).bind fun d=>
 (if (!d) then some true else ((E0 b 0 (A3 ((t.Nodes.length:Int) - 1))).bind fun e=>
 some (!e))).bind fun f=>
 if f then
 some 6
 else
 some 0
def Kc [Ev] (t:AC) (a:Int):Option (List Attr × Int):=
 (Ke t a a).bind fun c=>
 if (!decide (c=0)) then
 some ([],c)
 else
 (Nb t a).bind fun d=>
 (forA (fun (i0:Int) (s0:List Attr)=>
 (AL d i0).bind fun b=>
 (B2 [] b.Names).bind fun e=>
 (B2 s0 [Attr.mk b.Name b.Low b.High e]).bind fun f=>
 some f) 0 (d.length:Int) []).bind fun s0=>
 some (s0,0)
def M1 [Ev] (t:AC) (p:Pattern) (b:Int) (a:Int):Option (Attr × Bool):=
 if ((decide (b<0))||(decide ((p.Graph.Nodes.length:Int)<=b))) then
 some (Attr.mk (⟨#[]⟩:ByteArray) 0 0 [],false)
 else
 (AL p.Graph.Nodes b).bind fun d=>
 (Kc t d).bind fun c=>
 if (((!decide (c.2=0))||(decide (a<0)))||(decide ((c.1.length:Int)<=a))) then
 some (Attr.mk (⟨#[]⟩:ByteArray) 0 0 [],false)
 else
 (AL c.1 a).bind fun e=>
 some (e,true)
def MI (n:Int):ca:=
 some ((decide ((-1000000)<=n))&&(decide (n<=1000000)))
def Jx (n:Int) (t:Term):dD:=
 if ((((decide (t.Var<(-1)))||(decide (n<=t.Var)))||(decide (t.Add<(-1000000))))||(decide (1000000<t.Add))) then
 some 6
 else
 some 0
def Nn (n:Int) (a:Test):dD:=
 if ((!decide (a.Kind=1))&&(!decide (a.Kind=2))) then
 some 1
 else
 (Jx n a.Left).bind fun b=>
 if (!decide (b=0)) then
 some b
 else
 (Jx n a.Right).bind fun c=>
 some c
def L0 (n:Int) (l:List Test):dD:=
 if ((decide (n<0))||(decide (12<n))) then
 some 6
 else
 if (decide (40<(l.length:Int))) then
 some 3
 else
 thenR (forR (ρ:=Int) (fun (i0:Int) (_:Unit)=>
 (AL l i0).bind fun b=>
 (Nn n b).bind fun a=>
 if (!decide (a=0)) then
 some (.ret a)
 else
 some (.next ())) 0 (l.length:Int) ()) (fun _=>
 some 0) (fun v0=>some v0)
def LI (p:Pattern) (b:Int):ca:=
 thenR (forR (ρ:=Bool) (fun (i0:Int) (_:Unit)=>
 (AL p.Slots i0).bind fun a=>
 if (decide (a.Term.Var=b)) then
 some (.ret true)
 else
 some (.next ())) 0 (p.Slots.length:Int) ()) (fun _=>
 some false) (fun v0=>some v0)
def Jb [Ev] (t:AC) (p:Pattern):dD:=
 (IZ t).bind fun c=>
 if (!decide (c.2=0)) then
 some c.2
 else
 (GG p.Graph).bind fun d=>
 if (!decide (d=0)) then
 some d
 else
 (JZ t p.Graph).bind fun f=>
 if (!f) then
 some 13
 else
 if ((decide (p.Vars<0))||(decide (12<p.Vars))) then
 some 6
 else
 if ((decide (10<(p.Slots.length:Int)))||(decide (10<(p.Tests.length:Int)))) then
 some 3
 else
 thenR (forR (ρ:=Int) (fun (i0:Int) (_:Unit)=>
 (AL p.Slots i0).bind fun a=>
 (M1 t p a.Node a.Attr).bind fun g=>
 (if (((!g.2)||(decide (a.Term.Var<(-1))))||(decide (p.Vars<=a.Term.Var))) then some true else ((MI a.Term.Add).bind fun h=>
 some (!h))).bind fun i=>
 if i then
 some (.ret 6)
 else
 some (.next ())) 0 (p.Slots.length:Int) ()) (fun _=>
 (L0 p.Vars p.Tests).bind fun b=>
 if (!decide (b=0)) then
 some b
 else
 thenR (forR (ρ:=Int) (fun (i2:Int) (_:Unit)=>
 (LI p i2).bind fun e=>
 if (!e) then
 some (.ret 9)
 else
 some (.next ())) 0 p.Vars ()) (fun _=>
 some 0) (fun v2=>some v2)) (fun v0=>some v0)
def Is (c:AA):ca:=
 some (((decide ((A3 ((A3 ((A3 ((c.Map.Nodes.length:Int)+(c.Map.Edges.length:Int)))+(c.Pattern.Graph.Nodes.length:Int)))+(c.Pattern.Graph.Edges.length:Int)))=0))&&(decide ((A3 ((c.Pattern.Slots.length:Int)+(c.Pattern.Tests.length:Int)))=0)))&&(decide (c.Pattern.Vars=0)))
def MC (c:AA):ca:=
 if (decide (c.Kind=1)) then
 (if (decide ((c.Kids.length:Int)=0)) then ((Is c).bind fun a=>
 some (a)) else some false).bind fun b=>
 some b
 else
 if (decide (c.Kind=2)) then
 (if (decide ((c.Kids.length:Int)=1)) then ((Is c).bind fun d=>
 some (d)) else some false).bind fun e=>
 some e
 else
 (if (decide (c.Kind=3)) then
 some (decide (c.Kind=3))
 else
 some (decide (c.Kind=4))).bind fun w1=>
 if w1 then
 (if (decide (0<(c.Kids.length:Int))) then ((Is c).bind fun f=>
 some (f)) else some false).bind fun g=>
 some g
 else
 if (decide (c.Kind=5)) then
 some (decide ((c.Kids.length:Int)=1))
 else
 some false
def F9 [Ev]:Nat->AA->ca
 | 0,_=>none
 | n+1,c=>
  (MC c).bind fun d=>
  if (!d) then
  some false
  else
  thenR (forR (ρ:=Bool) (fun (i0:Int) (_:Unit)=>
  (AL c.Kids i0).bind fun a=>
  (F9 n a).bind fun b=>
  if (!b) then
  some (.ret false)
  else
  some (.next ())) 0 (c.Kids.length:Int) ()) (fun _=>
  some true) (fun v0=>some v0)
def NO [Ev] (c:AA):ca:=HU fun n=>F9 n c
def GZ [Ev]:Nat->AA->Option (Int × Int)
 | 0,_=>none
 | n+1,c=>
  (forA (fun (i0:Int) (s0:Int × Int)=>
  (AL c.Kids i0).bind fun b=>
  (GZ n b).bind fun a=>
  some (A3 (s0.1+a.1),max s0.2 a.2)) 0 (c.Kids.length:Int) (1,0)).bind fun s0=>
  (if (decide (c.Kind=5)) then
  some (A3 (s0.2+1))
  else
  some s0.2).bind fun w1=>
  some (s0.1,w1)
def N7 [Ev] (c:AA):Option (Int × Int):=HU fun n=>GZ n c
def L9 [Ev] (c:AA):dD:=
 (NO c).bind fun b=>
 if (!b) then
 some 1
 else
 (N7 c).bind fun a=>
 if ((decide (12<a.1))||(decide (3<a.2))) then
 some 3
 else
 some 0
def M2 (p:Pattern) (b:Int):ca:=
 thenR (forR (ρ:=Bool) (fun (i0:Int) (_:Unit)=>
 (AL p.Slots i0).bind fun a=>
 if (decide (a.Term.Var=b)) then
 some (.ret true)
 else
 some (.next ())) 0 (p.Slots.length:Int) ()) (fun _=>
 some false) (fun v0=>some v0)
def MB [Ev] (t:AC) (a:Int) (q:Pattern):dD:=
 if (decide (q.Vars<a)) then
 some 20
 else
 (Jb t q).bind fun b=>
 if (!decide (b=9)) then
 some b
 else
 thenR (forR (ρ:=Int) (fun (i0:Int) (_:Unit)=>
 (M2 q i0).bind fun c=>
 if (!c) then
 some (.ret b)
 else
 some (.next ())) a q.Vars ()) (fun _=>
 some 0) (fun v0=>some v0)
def Kf (a:Graph) (b:Graph) (m:Morphism):dD:=
 (GG a).bind fun e=>
 if (!decide (e=0)) then
 some e
 else
 (GG b).bind fun f=>
 if (!decide (f=0)) then
 some f
 else
 if ((!decide ((m.Nodes.length:Int)=(a.Nodes.length:Int)))||(!decide ((m.Edges.length:Int)=(a.Edges.length:Int)))) then
 some 20
 else
 thenR (forR (ρ:=Int) (fun (i0:Int) (_:Unit)=>
 (AL m.Nodes i0).bind fun l=>
 (if (decide (l<0)) then some true else ((AL m.Nodes i0).bind fun n=>
 some (decide ((b.Nodes.length:Int)<=n)))).bind fun o=>
 if o then
 some (.ret 6)
 else
 (AL m.Nodes i0).bind fun p=>
 (AL b.Nodes p).bind fun q=>
 (AL a.Nodes i0).bind fun r=>
 if (!decide (q=r)) then
 some (.ret 13)
 else
 some (.next ())) 0 (a.Nodes.length:Int) ()) (fun _=>
 thenR (forR (ρ:=Int) (fun (i2:Int) (_:Unit)=>
 (AL m.Edges i2).bind fun s=>
 (if (decide (s<0)) then some true else ((AL m.Edges i2).bind fun t=>
 some (decide ((b.Edges.length:Int)<=t)))).bind fun g=>
 if g then
 some (.ret 6)
 else
 (AL a.Edges i2).bind fun c=>
 (AL m.Edges i2).bind fun h=>
 (AL b.Edges h).bind fun d=>
 if (!decide (c.Type'=d.Type')) then
 some (.ret 13)
 else
 (AL m.Nodes c.From).bind fun i=>
 (if (!decide (i=d.From)) then some true else ((AL m.Nodes c.To).bind fun j=>
 some (!decide (j=d.To)))).bind fun k=>
 if k then
 some (.ret 11)
 else
 some (.next ())) 0 (a.Edges.length:Int) ()) (fun _=>
 some 0) (fun v2=>some v2)) (fun v0=>some v0)
def Ik (l:Ne):ca:=
 thenR (forR (ρ:=Bool) (fun (i0:Int) (_:Unit)=>
 thenR (forR (ρ:=Bool) (fun (i2:Int) (_:Unit)=>
 (AL l i0).bind fun a=>
 (AL l i2).bind fun b=>
 if (decide (a=b)) then
 some (.ret false)
 else
 some (.next ())) 0 i0 ()) (fun _=>
 some (.next ())) (fun v2=>some (.ret v2))) 0 (l.length:Int) ()) (fun _=>
 some true) (fun v0=>some v0)
def JO (a:Graph) (b:Graph) (m:Morphism):ca:=
 (Kf a b m).bind fun c=>
 (if (decide (c=0)) then ((Ik m.Nodes).bind fun d=>
 some (d)) else some false).bind fun e=>
 (if e then ((Ik m.Edges).bind fun f=>
 some (f)) else some false).bind fun g=>
 some g
def G5 [Ev]:Nat->AC->Pattern->AA->dD
 | 0,_,_,_=>none
 | n+1,t,p,c=>
  if (decide (c.Kind=5)) then
  (MB t p.Vars c.Pattern).bind fun d=>
  if (!decide (d=0)) then
  some d
  else
  (Kf p.Graph c.Pattern.Graph c.Map).bind fun e=>
  if (!decide (e=0)) then
  some e
  else
  (JO p.Graph c.Pattern.Graph c.Map).bind fun f=>
  if (!f) then
  some 1
  else
  thenR (forR (ρ:=Int) (fun (i0:Int) (_:Unit)=>
  (AL c.Kids i0).bind fun b=>
  (G5 n t c.Pattern b).bind fun a=>
  if (!decide (a=0)) then
  some (.ret a)
  else
  some (.next ())) 0 (c.Kids.length:Int) ()) (fun _=>
  some 0) (fun v0=>some v0)
  else
  thenR (forR (ρ:=Int) (fun (i0:Int) (_:Unit)=>
  (AL c.Kids i0).bind fun b=>
  (G5 n t p b).bind fun a=>
  if (!decide (a=0)) then
  some (.ret a)
  else
  some (.next ())) 0 (c.Kids.length:Int) ()) (fun _=>
  some 0) (fun v0=>some v0)
def Tq [Ev] (t:AC) (p:Pattern) (c:AA):dD:=HU fun n=>G5 n t p c
def Kj [Ev] (t:AC) (p:Pattern) (c:AA):dD:=
 (Jb t p).bind fun a=>
 if (!decide (a=0)) then
 some a
 else
 (L9 c).bind fun b=>
 if (!decide (b=0)) then
 some b
 else
 (Tq t p c).bind fun d=>
 some d
def Ja [Ev] (t:AC) (p:Graph) (g:Graph):dD:=
 (IZ t).bind fun a=>
 if (!decide (a.2=0)) then
 some a.2
 else
 (GG p).bind fun b=>
 if (!decide (b=0)) then
 some b
 else
 (GG g).bind fun c=>
 if (!decide (c=0)) then
 some c
 else
 (JZ t p).bind fun d=>
 (if (!d) then some true else ((JZ t g).bind fun e=>
 some (!e))).bind fun f=>
 if f then
 some 13
 else
 some 0
def L4 [Ev] (t:AC) (p:Graph) (g:Graph):ca:=
 (Me t).bind fun h=>
 (if h then ((J9 p).bind fun a=>
 some (a)) else some false).bind fun b=>
 (if b then ((J9 g).bind fun c=>
 some (c)) else some false).bind fun d=>
 (if d then ((Ja t p g).bind fun e=>
 some ((!decide (e=0))||(((decide ((A3 ((p.Nodes.length:Int)+(p.Edges.length:Int)))<=6))&&(decide ((g.Nodes.length:Int)<=8)))&&(decide ((g.Edges.length:Int)<=12))))) else some false).bind fun f=>
 some f
def L6 [Ev] (t:AC) (p:Pattern) (a:AQ):ca:=
 (Mg p).bind fun f=>
 (if f then ((Mf a).bind fun b=>
 some (b)) else some false).bind fun c=>
 (if c then ((L4 t p.Graph a.Graph).bind fun d=>
 some (d)) else some false).bind fun e=>
 some e
def HP [Ev]:Nat->AA->ca
 | 0,_=>none
 | n+1,c=>
  thenR (forR (ρ:=Bool) (fun (i0:Int) (_:Unit)=>
  (AL c.Kids i0).bind fun a=>
  (HP n a).bind fun b=>
  if (!b) then
  some (.ret false)
  else
  some (.next ())) 0 (c.Kids.length:Int) ()) (fun _=>
  some (decide ((A3 ((c.Pattern.Graph.Nodes.length:Int)+(c.Pattern.Graph.Edges.length:Int)))<=6))) (fun v0=>some v0)
def Oi [Ev] (c:AA):ca:=HU fun n=>HP n c
def FP [Ev]:Nat->Pattern->AA->Int->Int->ca
 | 0,_,_,_,_=>none
 | n+1,p,c,b,a=>
  (if (decide (c.Kind=5)) then
  some c.Pattern
  else
  some p).bind fun w1=>
  thenR (Iw (ρ:=Bool) (fun (s0:Int × Int)=>
  if (decide (s0.2<(w1.Graph.Nodes.length:Int))) then
  some (.next (A3 (s0.1*b),A3 (s0.2+1)))
  else
  some (.brk (s0.1,s0.2))) (1,(p.Graph.Nodes.length:Int))) (fun s0=>
  thenR (Iw (ρ:=Bool) (fun (s2:Int × Int)=>
  if (decide (s2.2<(w1.Graph.Edges.length:Int))) then
  some (.next (A3 (s2.1*a),A3 (s2.2+1)))
  else
  some (.brk (s2.1,s2.2))) (s0.1,(p.Graph.Edges.length:Int))) (fun s2=>
  thenR (forR (ρ:=Bool) (fun (i4:Int) (_:Unit)=>
  (AL c.Kids i4).bind fun d=>
  (FP n w1 d b a).bind fun e=>
  if (!e) then
  some (.ret false)
  else
  some (.next ())) 0 (c.Kids.length:Int) ()) (fun _=>
  some (decide (s2.1<=5000))) (fun v4=>some v4)) (fun v2=>some v2)) (fun v0=>some v0)
def N6 [Ev] (p:Pattern) (c:AA) (b:Int) (a:Int):ca:=HU fun n=>FP n p c b a
def EW [Ev] (t:AC) (p:Pattern) (c:AA) (a:AQ):ca:=
 (Nq c).bind fun b=>
 (if (!b) then some true else ((Mg p).bind fun d=>
 some (!d))).bind fun e=>
 (if e then some true else ((Mf a).bind fun f=>
 some (!f))).bind fun g=>
 if g then
 some false
 else
 (Kj t p c).bind fun h=>
 (if (!decide (h=0)) then some true else ((L6 t p a).bind fun i=>
 (if i then ((Oi c).bind fun j=>
 some (j)) else some false).bind fun k=>
 (if ((k&&(decide ((a.Graph.Nodes.length:Int)<=6)))&&(decide ((a.Graph.Edges.length:Int)<=8))) then ((N6 p c 14 18).bind fun l=>
 some (l)) else some false).bind fun m=>
 some (m))).bind fun n=>
 some n
def Lx [Ev] (t:AC) (a:Ht) (y:KG):ca:=
 (Me t).bind fun d=>
 (if d then ((EW t a.P a.C y.H).bind fun b=>
 some (b)) else some false).bind fun c=>
 some ((c&&(decide ((A3 ((y.M.Morphism.Nodes.length:Int)+(y.M.Morphism.Edges.length:Int)))<=150)))&&(decide ((y.M.Vars.length:Int)<=40)))
def M0 [Ev] (t:AC) (a:Int) (i:Ne):dD:=
 if (decide ((t.Nodes.length:Int)<=a)) then
 some 6
 else
 (AL t.Nodes a).bind fun c=>
 if c.Abstract then
 some 13
 else
 (Kc t a).bind fun b=>
 if (!decide ((i.length:Int)=(b.1.length:Int))) then
 some 20
 else
 thenR (forR (ρ:=Int) (fun (i0:Int) (_:Unit)=>
 (AL i i0).bind fun d=>
 (AL b.1 i0).bind fun e=>
 (if (decide (d<e.Low)) then some true else ((AL i i0).bind fun f=>
 (AL b.1 i0).bind fun g=>
 some (decide (g.High<f)))).bind fun h=>
 if h then
 some (.ret 6)
 else
 some (.next ())) 0 (b.1.length:Int) ()) (fun _=>
 some 0) (fun v0=>some v0)
def HO [Ev]:Nat->AC->Int->Int->ca
 | 0,_,_,_=>none
 | n+1,t,a,b=>
  (if (decide (a=b)) then some true else ((if (decide (0<=a)) then ((AL t.Nodes a).bind fun c=>
  (HO n t c.Parent b).bind fun d=>
  some (d)) else some false).bind fun e=>
  some (e))).bind fun f=>
  some f
def H4 [Ev] (t:AC) (a:Int) (b:Int):ca:=HU fun n=>HO n t a b
def Mx [Ev] (t:AC) (a:Int) (b:Int) (c:Int):ca:=
 (Ke t b c).bind fun d=>
 (if (!decide (d=0)) then some true else ((E0 a 0 (A3 ((t.Edges.length:Int) - 1))).bind fun e=>
 some (!e))).bind fun f=>
 if f then
 some false
 else
 (AL t.Edges a).bind fun g=>
 (H4 t b g.From).bind fun h=>
 (if h then ((AL t.Edges a).bind fun i=>
 (H4 t c i.To).bind fun j=>
 some (j)) else some false).bind fun k=>
 some k
def Kg [Ev] (t:AC) (a:AQ):Option (Int × Int):=
 (IZ t).bind fun c=>
 if (!decide (c.2=0)) then
 some ((-1),c.2)
 else
 (GG a.Graph).bind fun d=>
 if (!decide (d=0)) then
 some ((-1),d)
 else
 if (!decide ((a.Values.length:Int)=(a.Graph.Nodes.length:Int))) then
 some ((-1),20)
 else
 thenR (forR (ρ:=(Int × Int)) (fun (i0:Int) (_:Unit)=>
 (AL a.Graph.Nodes i0).bind fun f=>
 (AL a.Values i0).bind fun g=>
 (M0 t f g).bind fun e=>
 if (!decide (e=0)) then
 some (.ret (i0,e))
 else
 some (.next ())) 0 (a.Graph.Nodes.length:Int) ()) (fun _=>
 thenR (forR (ρ:=(Int × Int)) (fun (i2:Int) (_:Unit)=>
 (AL a.Graph.Edges i2).bind fun b=>
 if (decide ((t.Edges.length:Int)<=b.Type')) then
 some (.ret (i2,6))
 else
 (AL a.Graph.Nodes b.From).bind fun h=>
 (AL a.Graph.Nodes b.To).bind fun i=>
 (Mx t b.Type' h i).bind fun j=>
 if (!j) then
 some (.ret (i2,13))
 else
 some (.next ())) 0 (a.Graph.Edges.length:Int) ()) (fun _=>
 some ((-1),0)) (fun v2=>some v2)) (fun v0=>some v0)
def Jz (l:Ne):ca:=
 thenR (forR (ρ:=Bool) (fun (i0:Int) (_:Unit)=>
 thenR (forR (ρ:=Bool) (fun (i2:Int) (_:Unit)=>
 (AL l i0).bind fun a=>
 (AL l i2).bind fun b=>
 if (decide (a=b)) then
 some (.ret false)
 else
 some (.next ())) 0 i0 ()) (fun _=>
 some (.next ())) (fun v2=>some (.ret v2))) 0 (l.length:Int) ()) (fun _=>
 some true) (fun v0=>some v0)
def L5 [Ev] (t:AC) (p:Graph) (g:Graph) (m:Morphism) (a:Bool):dD:=
 if ((!decide ((m.Nodes.length:Int)=(p.Nodes.length:Int)))||(!decide ((m.Edges.length:Int)=(p.Edges.length:Int)))) then
 some 20
 else
 thenR (forR (ρ:=Int) (fun (i0:Int) (_:Unit)=>
 (AL m.Nodes i0).bind fun n=>
 (if (decide (n<0)) then some true else ((AL m.Nodes i0).bind fun o=>
 some (decide ((g.Nodes.length:Int)<=o)))).bind fun q=>
 if q then
 some (.ret 6)
 else
 (AL m.Nodes i0).bind fun r=>
 (AL g.Nodes r).bind fun s=>
 (AL p.Nodes i0).bind fun u=>
 (H4 t s u).bind fun v=>
 if (!v) then
 some (.ret 13)
 else
 some (.next ())) 0 (m.Nodes.length:Int) ()) (fun _=>
 thenR (forR (ρ:=Int) (fun (i2:Int) (_:Unit)=>
 (AL m.Edges i2).bind fun w=>
 (if (decide (w<0)) then some true else ((AL m.Edges i2).bind fun x=>
 some (decide ((g.Edges.length:Int)<=x)))).bind fun y=>
 if y then
 some (.ret 6)
 else
 (AL p.Edges i2).bind fun c=>
 (AL m.Edges i2).bind fun d=>
 (AL g.Edges d).bind fun b=>
 if (!decide (c.Type'=b.Type')) then
 some (.ret 13)
 else
 (AL m.Nodes c.From).bind fun e=>
 (if (!decide (e=b.From)) then some true else ((AL m.Nodes c.To).bind fun f=>
 some (!decide (f=b.To)))).bind fun h=>
 if h then
 some (.ret 11)
 else
 some (.next ())) 0 (m.Edges.length:Int) ()) (fun _=>
 (if a then ((Jz m.Nodes).bind fun i=>
 (if (!i) then some true else ((Jz m.Edges).bind fun j=>
 some (!j))).bind fun k=>
 some (k)) else some false).bind fun l=>
 if l then
 some 5
 else
 some 0) (fun v2=>some v2)) (fun v0=>some v0)
def Kh [Ev] (t:AC) (p:Graph) (g:Graph) (m:Morphism) (a:Bool):dD:=
 (Ja t p g).bind fun b=>
 if (!decide (b=0)) then
 some b
 else
 (L5 t p g m a).bind fun c=>
 some c
def L8 [Ev] (t:AC) (p:Pattern) (c:AQ):dD:=
 (Jb t p).bind fun a=>
 if (!decide (a=0)) then
 some a
 else
 (Kg t c).bind fun b=>
 some b.2
def Jc (a:Term) (c:Ne):dD:=
 if (decide (a.Var<0)) then
 some a.Add
 else
 (AL c a.Var).bind fun b=>
 some (A3 (b+a.Add))
def Kb (t:Term) (b:Ne):Option (Int × Bool):=
 if (decide (t.Var=(-1))) then
 some (t.Add,true)
 else
 if ((decide (t.Var<0))||(decide ((b.length:Int)<=t.Var))) then
 some (0,false)
 else
 (AL b t.Var).bind fun a=>
 some (A3 (a+t.Add),true)
def Lz (a:Test) (d:Ne):ca:=
 (Kb a.Left d).bind fun b=>
 (Kb a.Right d).bind fun c=>
 if ((!b.2)||(!c.2)) then
 some false
 else
 some (((decide (a.Kind=1))&&(decide (b.1<=c.1)))||((decide (a.Kind=2))&&(decide (b.1=c.1))))
def LH (p:Pattern) (l:AQ) (m:Morphism):Option (Ne × Int):=
 (J7 p.Vars 0).bind fun d=>
 (J7 p.Vars false).bind fun e=>
 thenR (forR (ρ:=(Ne × Int)) (fun (i0:Int) (s0:Ne × d0)=>
 (AL p.Slots i0).bind fun a=>
 (AL m.Nodes a.Node).bind fun f=>
 (AL l.Values f).bind fun g=>
 (AL g a.Attr).bind fun b=>
 (if (decide (0<=a.Term.Var)) then ((AL s0.2 a.Term.Var).bind fun h=>
 some (!h)) else some false).bind fun i=>
 if i then
 (AL s0.2 a.Term.Var).bind fun n=>
 (AL s0.1 a.Term.Var).bind fun o=>
 (Jc a.Term (CJ s0.1 a.Term.Var (A3 (b - a.Term.Add)))).bind fun c=>
 if (!decide (c=b)) then
 some (.ret ([],11))
 else
 some (.next (CJ s0.1 a.Term.Var (A3 (b - a.Term.Add)),CJ s0.2 a.Term.Var true))
 else
 (Jc a.Term s0.1).bind fun c=>
 if (!decide (c=b)) then
 some (.ret ([],11))
 else
 some (.next (s0.1,s0.2))) 0 (p.Slots.length:Int) (d,e)) (fun s0=>
 thenR (forR (ρ:=(Ne × Int)) (fun (i2:Int) (_:Unit)=>
 (AL p.Tests i2).bind fun j=>
 (Lz j s0.1).bind fun k=>
 if (!k) then
 some (.ret ([],16))
 else
 some (.next ())) 0 (p.Tests.length:Int) ()) (fun _=>
 some (s0.1,0)) (fun v2=>some v2)) (fun v0=>some v0)
def L7 [Ev] (t:AC) (p:Pattern) (a:AQ) (m:Morphism):Option (Ne × Int):=
 (L8 t p a).bind fun b=>
 if (!decide (b=0)) then
 some ([],b)
 else
 (Kh t p.Graph a.Graph m false).bind fun c=>
 if (!decide (c=0)) then
 some ([],c)
 else
 (LH p a m).bind fun d=>
 some (d.1,d.2)
def LY (a:Ne) (b:Ne):ca:=
 if (!decide ((a.length:Int)=(b.length:Int))) then
 some false
 else
 thenR (forR (ρ:=Bool) (fun (i0:Int) (_:Unit)=>
 (AL a i0).bind fun c=>
 (AL b i0).bind fun d=>
 if (!decide (c=d)) then
 some (.ret false)
 else
 some (.next ())) 0 (a.length:Int) ()) (fun _=>
 some true) (fun v0=>some v0)
def Nd [Ev] (t:AC) (p:Pattern) (d:AQ) (m:AE) (a:Bool):dD:=
 (Kh t p.Graph d.Graph m.Morphism a).bind fun c=>
 if (!decide (c=0)) then
 some c
 else
 (L7 t p d m.Morphism).bind fun b=>
 (if (decide (b.2=0)) then ((LY b.1 m.Vars).bind fun e=>
 some (!e)) else some false).bind fun f=>
 (if f then
 some 11
 else
 some b.2).bind fun w1=>
 some w1
def MA [Ev] (t:AC) (p:Pattern) (c:AA) (e:AQ) (m:AE) (a:Bool):dD:=
 (Kj t p c).bind fun b=>
 if (!decide (b=0)) then
 some b
 else
 (Kg t e).bind fun d=>
 if (!decide (d.2=0)) then
 some d.2
 else
 (Nd t p e m a).bind fun f=>
 some f
def J0 (l:Ne) (a:Int) (n:Int):dD:=
 if (!decide ((l.length:Int)=a)) then
 some 20
 else
 thenR (forR (ρ:=Int) (fun (i0:Int) (_:Unit)=>
 (AL l i0).bind fun b=>
 (if (decide (b<(-1))) then some true else ((AL l i0).bind fun c=>
 some (decide (n<=c)))).bind fun d=>
 if d then
 some (.ret 6)
 else
 some (.next ())) 0 (l.length:Int) ()) (fun _=>
 some 0) (fun v0=>some v0)
def G7 (c:AV) (a:Ne):ca:=
 thenR (forR (ρ:=Bool) (fun (i0:Int) (_:Unit)=>
 (AL c.p.Edges i0).bind fun b=>
 if ((decide ((a.length:Int)<=b.From))||(decide ((a.length:Int)<=b.To))) then
 some (.next ())
 else
 (forA (fun (i2:Int) (s2:Bool)=>
 (AL c.g.Edges i2).bind fun d=>
 (if s2 then some true else ((if (decide (b.Type'=d.Type')) then ((AL a b.From).bind fun e=>
 some (decide (d.From=e))) else some false).bind fun f=>
 (if f then ((AL a b.To).bind fun h=>
 some (decide (d.To=h))) else some false).bind fun i=>
 some (i))).bind fun j=>
 some j) 0 (c.g.Edges.length:Int) false).bind fun s2=>
 if (!s2) then
 some (.ret false)
 else
 some (.next ())) 0 (c.p.Edges.length:Int) ()) (fun _=>
 some true) (fun v0=>some v0)
def D2 [Ev] (b:AV) (l:Ne) (n:Int):ca:=
 thenR (Iw (ρ:=Bool) (fun (s0:Int)=>
 if ((decide (s0<(l.length:Int)))&&b.injective) then
 (AL l s0).bind fun a=>
 if (decide (a=n)) then
 some (.ret true)
 else
 some (.next (A3 (s0+1)))
 else
 some (.brk s0)) 0) (fun s0=>
 some false) (fun v0=>some v0)
def DB [Ev]:Nat->AV->Ne->Ne->Option AV
 | 0,_,_,_=>none
 | n+1,a,b,l=>
  if (decide (a.most<(a.found.length:Int))) then
  some a
  else
  if (decide ((l.length:Int)=(a.p.Edges.length:Int))) then
  (B2 [] b).bind fun o=>
  (B2 [] l).bind fun q=>
  (B2 a.found [Morphism.mk o q]).bind fun r=>
  some (AV.mk a.t a.p a.g a.partial_ a.injective a.most r)
  else
  (AL a.p.Edges (l.length:Int)).bind fun c=>
  thenR (Iw (ρ:=AV) (fun (s0:AV × Int)=>
  if (decide (s0.2<(s0.1.g.Edges.length:Int))) then
  (AL s0.1.g.Edges s0.2).bind fun d=>
  (AL s0.1.partial_.Edges (l.length:Int)).bind fun s=>
  (if (decide (0<=s)) then ((AL s0.1.partial_.Edges (l.length:Int)).bind fun u=>
  some (!decide (u=s0.2))) else some false).bind fun v=>
  (if v then some true else ((D2 s0.1 l s0.2).bind fun w=>
  some (w))).bind fun x=>
  (if (x||(!decide (c.Type'=d.Type'))) then some true else ((AL b c.From).bind fun e=>
  some (!decide (d.From=e)))).bind fun f=>
  (if f then some true else ((AL b c.To).bind fun h=>
  some (!decide (d.To=h)))).bind fun i=>
  if i then
  some (.next (s0.1,A3 (s0.2+1)))
  else
  (B2 [] l).bind fun j=>
  (B2 j [s0.2]).bind fun k=>
  (DB n s0.1 b k).bind fun m=>
  some (.next (m,A3 (s0.2+1)))
  else
  some (.brk (s0.1,s0.2))) (a,0)) (fun s0=>
  some s0.1) (fun v0=>some v0)
def MV [Ev] (b:AV) (a:Ne) (l:Ne):Option AV:=HU fun n=>DB n b a l
def DC [Ev]:Nat->AV->Ne->Option AV
 | 0,_,_=>none
 | n+1,a,l=>
  (if (decide (a.most<(a.found.length:Int))) then some true else ((G7 a l).bind fun d=>
  some (!d))).bind fun e=>
  if e then
  some a
  else
  if (decide ((l.length:Int)=(a.p.Nodes.length:Int))) then
  (MV a l []).bind fun f=>
  some f
  else
  thenR (Iw (ρ:=AV) (fun (s0:AV × Int)=>
  if (decide (s0.2<(s0.1.g.Nodes.length:Int))) then
  (AL s0.1.partial_.Nodes (l.length:Int)).bind fun h=>
  (if (decide (0<=h)) then ((AL s0.1.partial_.Nodes (l.length:Int)).bind fun i=>
  some (!decide (i=s0.2))) else some false).bind fun j=>
  (if j then some true else ((D2 s0.1 l s0.2).bind fun k=>
  some (k))).bind fun m=>
  (if m then some true else ((AL s0.1.g.Nodes s0.2).bind fun o=>
  (AL s0.1.p.Nodes (l.length:Int)).bind fun q=>
  (H4 s0.1.t o q).bind fun r=>
  some (!r))).bind fun s=>
  if s then
  some (.next (s0.1,A3 (s0.2+1)))
  else
  (B2 [] l).bind fun u=>
  (B2 u [s0.2]).bind fun b=>
  (DC n s0.1 b).bind fun c=>
  some (.next (c,A3 (s0.2+1)))
  else
  some (.brk (s0.1,s0.2))) (a,0)) (fun s0=>
  some s0.1) (fun v0=>some v0)
def Jm [Ev] (a:AV) (l:Ne):Option AV:=HU fun n=>DC n a l
def Np [Ev] (t:AC) (p:Graph) (g:Graph) (b:Morphism) (a:Bool) (c:Int):Option (List Morphism):=
 (Jm (AV.mk t p g b a c []) []).bind fun d=>
 some d.found
def LG [Ev] (t:AC) (p:Graph) (g:Graph) (a:Morphism) (b:Bool):Option (List Morphism × Int):=
 (Ja t p g).bind fun c=>
 if (!decide (c=0)) then
 some ([],c)
 else
 if ((!decide ((a.Nodes.length:Int)=(p.Nodes.length:Int)))||(!decide ((a.Edges.length:Int)=(p.Edges.length:Int)))) then
 some ([],20)
 else
 (J0 a.Nodes (p.Nodes.length:Int) (g.Nodes.length:Int)).bind fun d=>
 if (!decide (d=0)) then
 some ([],d)
 else
 (J0 a.Edges (p.Edges.length:Int) (g.Edges.length:Int)).bind fun e=>
 if (!decide (e=0)) then
 some ([],e)
 else
 (Np t p g a b 5000).bind fun f=>
 if (decide (5000<(f.length:Int))) then
 some ([],3)
 else
 some (f,0)
def J1 (n:Int) (b:Ne) (m:Ne):Option Ne:=
 (forA (fun (i0:Int) (s0:Ne)=>
 (B2 s0 [(-1)]).bind fun c=>
 some c) 0 n []).bind fun s0=>
 (forA (fun (i2:Int) (s2:Ne)=>
 (AL b i2).bind fun a=>
 (AL m i2).bind fun d=>
 (AL s2 a).bind fun e=>
 some (CJ s2 a d)) 0 (b.length:Int) s0).bind fun s2=>
 some s2
def IV (a:Term) (c:Ne):Option (Int × Int):=
 if ((decide (a.Var<(-1)))||(decide ((c.length:Int)<=a.Var))) then
 some (0,6)
 else
 (Jc a c).bind fun b=>
 some (b,0)
def LJ (q:Pattern) (p:AQ) (m:Morphism) (c:Ne):Option (Ne × Bool):=
 (B2 [] c).bind fun h=>
 (J7 q.Vars false).bind fun i=>
 (forA (fun (i0:Int) (s0:Ne × d0)=>
 (AL s0.2 i0).bind fun t=>
 if (decide ((c.length:Int)<=i0)) then
 (B2 s0.1 [0]).bind fun j=>
 some (j,CJ s0.2 i0 (decide (i0<(c.length:Int))))
 else
 some (s0.1,CJ s0.2 i0 (decide (i0<(c.length:Int))))) 0 q.Vars (h,i)).bind fun s0=>
 thenR (forR (ρ:=(Ne × Bool)) (fun (i2:Int) (s2:Ne × d0)=>
 (AL q.Slots i2).bind fun a=>
 (AL m.Nodes a.Node).bind fun k=>
 (AL p.Values k).bind fun l=>
 (AL l a.Attr).bind fun e=>
 (if (decide (0<=a.Term.Var)) then ((AL s2.2 a.Term.Var).bind fun n=>
 some (!n)) else some false).bind fun o=>
 if o then
 (AL s2.1 a.Term.Var).bind fun r=>
 (AL s2.2 a.Term.Var).bind fun s=>
 (IV a.Term (CJ s2.1 a.Term.Var (A3 (e - a.Term.Add)))).bind fun d=>
 if (!decide (d.1=e)) then
 some (.ret ([],false))
 else
 some (.next (CJ s2.1 a.Term.Var (A3 (e - a.Term.Add)),CJ s2.2 a.Term.Var true))
 else
 (IV a.Term s2.1).bind fun d=>
 if (!decide (d.1=e)) then
 some (.ret ([],false))
 else
 some (.next (s2.1,s2.2))) 0 (q.Slots.length:Int) (s0.1,s0.2)) (fun s2=>
 thenR (forR (ρ:=(Ne × Bool)) (fun (i4:Int) (_:Unit)=>
 (AL q.Tests i4).bind fun b=>
 (IV b.Left s2.1).bind fun f=>
 (IV b.Right s2.1).bind fun g=>
 if (((decide (b.Kind=1))&&(decide (g.1<f.1)))||((decide (b.Kind=2))&&(!decide (f.1=g.1)))) then
 some (.ret ([],false))
 else
 some (.next ())) 0 (q.Tests.length:Int) ()) (fun _=>
 some (s2.1,true)) (fun v4=>some v4)) (fun v2=>some v2)
def Ir [Ev] (t:AC) (c:AA) (e:AQ) (m:AE) (a:Bool):Option (List AE × Int):=
 (J1 (c.Pattern.Graph.Nodes.length:Int) c.Map.Nodes m.Morphism.Nodes).bind fun f=>
 (J1 (c.Pattern.Graph.Edges.length:Int) c.Map.Edges m.Morphism.Edges).bind fun g=>
 (LG t c.Pattern.Graph e.Graph (Morphism.mk f g) a).bind fun b=>
 if (!decide (b.2=0)) then
 some ([],b.2)
 else
 (forA (fun (i0:Int) (s0:List AE)=>
 (AL b.1 i0).bind fun h=>
 (LJ c.Pattern e h m.Vars).bind fun d=>
 if d.2 then
 (AL b.1 i0).bind fun i=>
 (B2 s0 [AE.mk i d.1]).bind fun j=>
 some j
 else
 some s0) 0 (b.1.length:Int) []).bind fun s0=>
 some (s0,0)
def FI [Ev]:Nat->AC->AA->AQ->AE->Bool->Option (A0 × Int)
 | 0,_,_,_,_,_=>none
 | n+1,t,c,f,m,a=>
  if (decide (c.Kind=2)) then
  (AL c.Kids 0).bind fun l=>
  (FI n t l f m a).bind fun g=>
  if (decide (g.2=0)) then
  some (A0.mk 0 (AE.mk (Morphism.mk [] []) []) [],10)
  else
  if (decide (g.2=10)) then
  some (A0.mk 0 (AE.mk (Morphism.mk [] []) []) [],0)
  else
  some (A0.mk 0 (AE.mk (Morphism.mk [] []) []) [],g.2)
  else
  if (decide (c.Kind=3)) then
  thenR (forR (ρ:=(A0 × Int)) (fun (i1:Int) (s1:A0 × A0)=>
  (AL c.Kids i1).bind fun o=>
  (FI n t o f m a).bind fun h=>
  if (!decide (h.2=0)) then
  some (.ret (A0.mk 0 (AE.mk (Morphism.mk [] []) []) [],h.2))
  else
  (B2 s1.2.Kids [h.1]).bind fun p=>
  some (.next (s1.1,A0.mk s1.2.Choice s1.2.Match p))) 0 (c.Kids.length:Int) (A0.mk 0 (AE.mk (Morphism.mk [] []) []) [],A0.mk 0 (AE.mk (Morphism.mk [] []) []) [])) (fun s1=>
  some (s1.2,0)) (fun v1=>some v1)
  else
  if (decide (c.Kind=4)) then
  thenR (forR (ρ:=(A0 × Int)) (fun (i3:Int) (s3:A0)=>
  (AL c.Kids i3).bind fun q=>
  (FI n t q f m a).bind fun d=>
  if (!decide (d.2=10)) then
  some (.ret (A0.mk i3 (AE.mk (Morphism.mk [] []) []) [d.1],d.2))
  else
  some (.next s3)) 0 (c.Kids.length:Int) (A0.mk 0 (AE.mk (Morphism.mk [] []) []) [])) (fun s3=>
  some (A0.mk 0 (AE.mk (Morphism.mk [] []) []) [],10)) (fun v3=>some v3)
  else
  if (decide (c.Kind=5)) then
  (Ir t c f m a).bind fun b=>
  if (!decide (b.2=0)) then
  some (A0.mk 0 (AE.mk (Morphism.mk [] []) []) [],b.2)
  else
  thenR (forR (ρ:=(A0 × Int)) (fun (i5:Int) (s5:A0)=>
  (AL c.Kids 0).bind fun i=>
  (AL b.1 i5).bind fun j=>
  (FI n t i f j a).bind fun e=>
  if (!decide (e.2=10)) then
  (AL b.1 i5).bind fun k=>
  some (.ret (A0.mk 0 k [e.1],e.2))
  else
  some (.next s5)) 0 (b.1.length:Int) (A0.mk 0 (AE.mk (Morphism.mk [] []) []) [])) (fun s5=>
  some (A0.mk 0 (AE.mk (Morphism.mk [] []) []) [],10)) (fun v5=>some v5)
  else
  some (A0.mk 0 (AE.mk (Morphism.mk [] []) []) [],0)
def PX [Ev] (t:AC) (c:AA) (b:AQ) (m:AE) (a:Bool):Option (A0 × Int):=HU fun n=>FI n t c b m a
def Ki [Ev] (t:AC) (c:AA) (d:AQ) (m:AE) (a:Bool):Option (Bool × Int):=
 (PX t c d m a).bind fun b=>
 if (decide (b.2=10)) then
 some (false,0)
 else
 some (decide (b.2=0),b.2)
def JP [Ev] (t:AC) (p:Pattern) (c:AA) (e:AQ) (m:AE) (a:Bool):Option (Bool × Int):=
 (MA t p c e m a).bind fun b=>
 if (!decide (b=0)) then
 some (false,b)
 else
 (Ki t c e m a).bind fun d=>
 some (d.1,d.2)
def IG (l:Ne) (n:Int):dD:=
 thenR (forR (ρ:=Int) (fun (i0:Int) (_:Unit)=>
 (AL l i0).bind fun a=>
 (if (decide (a<0)) then some true else ((AL l i0).bind fun b=>
 some (decide (n<=b)))).bind fun c=>
 if c then
 some (.ret 6)
 else
 (if (decide (0<i0)) then ((AL l i0).bind fun d=>
 (AL l (A3 (i0 - 1))).bind fun e=>
 some (decide (d<=e))) else some false).bind fun f=>
 if f then
 some (.ret 12)
 else
 some (.next ())) 0 (l.length:Int) ()) (fun _=>
 some 0) (fun v0=>some v0)
def Jy (n:Int) (a:Ne):Option Ne:=
 (forA (fun (i0:Int) (s0:Ne × Int × Int)=>
 (if (decide (s0.2.2<(a.length:Int))) then ((AL a s0.2.2).bind fun b=>
 some (decide (b=i0))) else some false).bind fun c=>
 if c then
 (B2 s0.1 [(-1)]).bind fun d=>
 some (d,s0.2.1,A3 (s0.2.2+1))
 else
 (B2 s0.1 [s0.2.1]).bind fun e=>
 some (e,A3 (s0.2.1+1),s0.2.2)) 0 n ([],0,0)).bind fun s0=>
 some s0.1
def LF (g:Graph) (a:Ne) (b:Ne):Option (Graph × Morphism × Int):=
 (GG g).bind fun f=>
 if (!decide (f=0)) then
 some (Graph.mk [] [],Morphism.mk [] [],f)
 else
 (IG a (g.Nodes.length:Int)).bind fun h=>
 if (!decide (h=0)) then
 some (Graph.mk [] [],Morphism.mk [] [],h)
 else
 (IG b (g.Edges.length:Int)).bind fun i=>
 if (!decide (i=0)) then
 some (Graph.mk [] [],Morphism.mk [] [],i)
 else
 (Jy (g.Nodes.length:Int) a).bind fun c=>
 (Jy (g.Edges.length:Int) b).bind fun j=>
 (forA (fun (i0:Int) (s0:Graph)=>
 (AL c i0).bind fun n=>
 if (decide (0<=n)) then
 (AL g.Nodes i0).bind fun o=>
 (B2 s0.Nodes [o]).bind fun p=>
 some (Graph.mk p s0.Edges)
 else
 some s0) 0 (g.Nodes.length:Int) (Graph.mk [] [])).bind fun s0=>
 thenR (forR (ρ:=(Graph × Morphism × Int)) (fun (i2:Int) (s2:Graph × Morphism × Graph)=>
 (AL j i2).bind fun q=>
 if (decide (q<0)) then
 some (.next (s2.1,s2.2.1,s2.2.2))
 else
 (AL g.Edges i2).bind fun r=>
 (AL g.Edges i2).bind fun k=>
 (AL c k.From).bind fun d=>
 (AL g.Edges i2).bind fun l=>
 (AL c l.To).bind fun e=>
 if ((decide (d<0))||(decide (e<0))) then
 some (.ret (Graph.mk [] [],Morphism.mk [] [],14))
 else
 (B2 s2.2.2.Edges [DK.mk r.Type' d e]).bind fun m=>
 some (.next (s2.1,s2.2.1,Graph.mk s2.2.2.Nodes m))) 0 (g.Edges.length:Int) (Graph.mk [] [],Morphism.mk [] [],s0)) (fun s2=>
 some (s2.2.2,Morphism.mk c j,0)) (fun v2=>some v2)
def IL [Ev] (a:DJ) (b:Ne):Option DJ:=
 (LF a.H.Graph [] b).bind fun c=>
 thenR (Iw (ρ:=DJ) (fun (s0:AE × Int)=>
 if (decide (s0.2<(a.M.Morphism.Edges.length:Int))) then
 (AL a.M.Morphism.Edges s0.2).bind fun d=>
 (AL c.2.1.Edges d).bind fun e=>
 (B2 s0.1.Morphism.Edges [e]).bind fun f=>
 some (.next (AE.mk (Morphism.mk s0.1.Morphism.Nodes f) s0.1.Vars,A3 (s0.2+1)))
 else
 some (.brk (s0.1,s0.2))) (AE.mk (Morphism.mk a.M.Morphism.Nodes []) a.M.Vars,0)) (fun s0=>
 some (DJ.mk a.T (AQ.mk c.1 a.H.Values) s0.1 a.Injective)) (fun v0=>some v0)
def LM (a:Ne) (n:Int):Option Ne:=
 (B2 [] a).bind fun c=>
 (B2 c [n]).bind fun b=>
 some b
def ref23_holds [Ev] (a:DJ) (c:AA):Option (Bool × Int):=
 (Ki a.T c a.H a.M a.Injective).bind fun b=>
 some (b.1,b.2)
def PM (l:Ne) (n:Int):ca:=
 thenR (forR (ρ:=Bool) (fun (i0:Int) (_:Unit)=>
 (AL l i0).bind fun a=>
 if (decide (a=n)) then
 some (.ret true)
 else
 some (.next ())) 0 (l.length:Int) ()) (fun _=>
 some false) (fun v0=>some v0)
def E3 [Ev]:Nat->DJ->AA->Ne->Int->Option (Ne × Bool × Int)
 | 0,_,_,_,_=>none
 | n+1,d,c,a,e=>
  if (decide (e=0)) then
  (IL d a).bind fun g=>
  (ref23_holds g c).bind fun f=>
  some (a,f.1,f.2)
  else
  (if (decide (0<(a.length:Int))) then
  (AL a (A3 ((a.length:Int) - 1))).bind fun h=>
  some (A3 (h+1))
  else
  some 0).bind fun w1=>
  thenR (forR (ρ:=(Ne × Bool × Int)) (fun (i0:Int) (_:Unit)=>
  (PM d.M.Morphism.Edges i0).bind fun i=>
  if i then
  some (.next ())
  else
  (LM a i0).bind fun j=>
  (E3 n d c j (A3 (e - 1))).bind fun b=>
  if (b.2.1||(!decide (b.2.2=0))) then
  some (.ret (b.1,b.2.1,b.2.2))
  else
  some (.next ())) w1 (d.H.Graph.Edges.length:Int) ()) (fun _=>
  some ([],false,0)) (fun v0=>some v0)
def NP [Ev] (d:DJ) (c:AA) (a:Ne) (b:Int):Option (Ne × Bool × Int):=HU fun n=>E3 n d c a b
def LK [Ev] (t:AC) (p:Pattern) (c:AA) (b:AQ) (m:AE):Option (Ne × Int):=
 (JP t p c b m true).bind fun d=>
 if (!decide (d.2=0)) then
 some ([],d.2)
 else
 (if (!decide (c.Kind=2)) then some true else ((AL c.Kids 0).bind fun e=>
 some (!decide (e.Kind=5)))).bind fun f=>
 if f then
 some ([],8)
 else
 if (decide (12<(b.Graph.Edges.length:Int))) then
 some ([],3)
 else
 thenR (Iw (ρ:=(Ne × Int)) (fun (s0:Int)=>
 if (decide (s0<=3)) then
 (NP (DJ.mk t b m true) c [] s0).bind fun a=>
 if (!decide (a.2.2=0)) then
 some (.ret ([],a.2.2))
 else
 if a.2.1 then
 some (.ret (a.1,0))
 else
 some (.next (A3 (s0+1)))
 else
 some (.brk s0)) 0) (fun s0=>
 some ([],10)) (fun v0=>some v0)
def I0 [Ev] (t:AC) (a:Ht) (y:KG):ca:=
 (GF).bind fun f=>
 (if (!f) then some true else ((Lx t a y).bind fun g=>
 some (!g))).bind fun h=>
 if h then
 (GF).bind fun i=>
 some i
 else
 (FM t a.P a.C y.H y.M).bind fun b=>
 (LK t a.P a.C y.H y.M).bind fun c=>
 (slices_Equal_int b.1 c.1).bind fun j=>
 if (((!j)||(!decide (b.2=c.2)))||(!decide (b.2=0))) then
 (slices_Equal_int b.1 c.1).bind fun k=>
 some (k&&(decide (b.2=c.2)))
 else
 (IL (DJ.mk t y.H y.M true) b.1).bind fun d=>
 (CX t a.P a.C d.H d.M true).bind fun e=>
 some ((decide (e.2=0))&&e.1)
end
end Go.Sf.Sc
