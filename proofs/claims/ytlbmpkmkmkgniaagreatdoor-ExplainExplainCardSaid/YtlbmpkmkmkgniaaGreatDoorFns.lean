/- The functions of the program as Lean functions. -/
import Derived.Test.YtlbmpkmkmkgniaaGreatDoorTypes
import Derived.Test.YtlbmpkmkmkgniaaGreatDoorSfText
set_option linter.all false
set_option maxRecDepth 100000
namespace Go.Sf.Sc
open Go Go.Sf
noncomputable section
def slices_Equal_int (a:Ne) (b:Ne):ca:=
 if (!decide ((a.length:Int)=(b.length:Int))) then
 some false
 else
 thenR (forR (ρ:=Bool) (fun (i0:Int) (_:Unit)=>
 (AM a i0).bind fun c=>
 (AM b i0).bind fun d=>
 if (!decide (c=d)) then
 some (.ret false)
 else
 some (.next ())) 0 (a.length:Int) ()) (fun _=>
 some true) (fun v0=>some v0)
def LQ (c:Int):ca:=
 some (((decide (97<=c))&&(decide (c<=122)))||((decide (65<=c))&&(decide (c<=90))))
def Io [Ev] (a:ByteArray) (e:Int->ca):dD:=
 thenR (I7 (ρ:=Int) (fun (s0:Int)=>
 (if (decide (s0<(a.size:Int))) then ((sidx a s0).bind fun b=>
 (e b).bind fun c=>
 some (c)) else some false).bind fun d=>
 if d then
 some (.next (A4 (s0+1)))
 else
 some (.brk s0)) 0) (fun s0=>
 some s0) (fun v0=>some v0)
def Kv (c:Int):ca:=
 some ((decide (48<=c))&&(decide (c<=57)))
def NG (c:Int):ca:=
 (LQ c).bind fun a=>
 (if a then some true else ((Kv c).bind fun b=>
 some (b))).bind fun d=>
 some (d||(decide (c=95)))
def Lf (c:Int):ca:=
 some (((decide (32<=c))&&(decide (c<=126)))&&(!decide (c=34)))
def IM [Ev] (a:ByteArray):Option (Int × Int):=
 (sslc a 1 a.size).bind fun e=>
 (Io e Lf).bind fun b=>
 (if (decide ((A4 (1+b))=(a.size:Int))) then some true else ((sidx a (A4 (1+b))).bind fun c=>
 some (!decide (c=34)))).bind fun d=>
 if d then
 some (0,2)
 else
 if (decide (60<b)) then
 some (0,3)
 else
 some (A4 (b+2),0)
def slices_Index_string (a:List ByteArray) (c:ByteArray):dD:=
 thenR (forR (ρ:=Int) (fun (i0:Int) (_:Unit)=>
 (AM a i0).bind fun b=>
 if (c==b) then
 some (.ret i0)
 else
 some (.next ())) 0 (a.length:Int) ()) (fun _=>
 some (-1)) (fun v0=>some v0)
def slices_Contains_string (b:List ByteArray) (a:ByteArray):ca:=
 (slices_Index_string b a).bind fun c=>
 some (decide (0<=c))
def NE (a:ByteArray):ca:=
 (if (decide (2<=(a.size:Int))) then ((sslc a 0 2).bind fun d=>
 (slices_Contains_string [(⟨#[45,62]⟩:ByteArray),(⟨#[60,61]⟩:ByteArray),(⟨#[62,61]⟩:ByteArray),(⟨#[61,61]⟩:ByteArray),(⟨#[33,61]⟩:ByteArray)] d).bind fun b=>
 some (b)) else some false).bind fun c=>
 some c
def strings_IndexByte (s:ByteArray) (c:Int):dD:=some (Go.Lib.indexByte s.data.toList c.toNat.toUInt8)
def JY [Ev] (a:ByteArray):Option (Int × Int × Int):=
 (sidx a 0).bind fun b=>
 (LQ b).bind fun f=>
 if f then
 (Io a NG).bind fun c=>
 if (decide (20<c)) then
 some (0,0,3)
 else
 some (1,c,0)
 else
 (Kv b).bind fun g=>
 if g then
 (Io a Kv).bind fun d=>
 if (decide (9<d)) then
 some (0,0,3)
 else
 some (2,d,0)
 else
 if (decide (b=34)) then
 (IM a).bind fun e=>
 some (3,e.1,e.2)
 else
 (NE a).bind fun h=>
 if h then
 some (4,2,0)
 else
 (strings_IndexByte (⟨#[123,125,40,41,91,93,44,59,58,61,43,45,42,60,62,33,38,124,46,63]⟩:ByteArray) b).bind fun i=>
 if (decide (0<=i)) then
 some (4,1,0)
 else
 some (0,0,2)
def Jl [Ev] (t:GN):Option (ByteArray × Bool):=
 (if (decide (t.Kind=3)) then
 (NB (⟨#[34]⟩:ByteArray) t.Text).bind fun b=>
 (NB b (⟨#[34]⟩:ByteArray)).bind fun c=>
 some c
 else
 some t.Text).bind fun w1=>
 if (w1==(⟨#[]⟩:ByteArray)) then
 some ((⟨#[]⟩:ByteArray),false)
 else
 (JY w1).bind fun a=>
 some (w1,((decide (a.2.2=0))&&(decide (a.1=t.Kind)))&&(decide (a.2.1=(w1.size:Int))))
def FN [Ev] (a:ByteArray):ca:=
 (Jl (GN.mk 1 a 0)).bind fun b=>
 some b.2
def EH [Ev] (a:List CX) (f:CX->ca):dD:=
 thenR (forR (ρ:=Int) (fun (i0:Int) (_:Unit)=>
 (AM a i0).bind fun b=>
 (f b).bind fun c=>
 if c then
 some (.ret i0)
 else
 some (.next ())) 0 (a.length:Int) ()) (fun _=>
 some (-1)) (fun v0=>some v0)
def DC [Ev] (a:List CX) (f:CX->ca):ca:=
 (EH a f).bind fun b=>
 some (decide (0<=b))
def NI (m:CX) (a:CX):ca:=
 some (m.Name==a.Name)
def EO [Ev]:Nat->AC->Int->Option (List Attr)
 | 0,_,_=>none
 | n+1,t,a=>
  (AM t.Nodes a).bind fun b=>
  (if (decide (0<=b.Parent)) then
  (EO n t b.Parent).bind fun c=>
  some c
  else
  some []).bind fun w1=>
  (AM t.Nodes a).bind fun d=>
  (B0 w1 d.Attrs).bind fun e=>
  some e
def Kw [Ev] (t:AC) (a:Int):Option (List Attr):=HH fun n=>EO n t a
def FD [Ev] (a:List Attr) (f:Attr->ca):dD:=
 thenR (forR (ρ:=Int) (fun (i0:Int) (_:Unit)=>
 (AM a i0).bind fun b=>
 (f b).bind fun c=>
 if c then
 some (.ret i0)
 else
 some (.next ())) 0 (a.length:Int) ()) (fun _=>
 some (-1)) (fun v0=>some v0)
def D3 [Ev] (a:List Attr) (f:Attr->ca):ca:=
 (FD a f).bind fun b=>
 some (decide (0<=b))
def Js (y:Attr) (a:Attr):ca:=
 some (y.Name==a.Name)
def Iq [Ev] (l:List ByteArray):dD:=
 if (decide (20<(l.length:Int))) then
 some 3
 else
 thenR (forR (ρ:=Int) (fun (i0:Int) (_:Unit)=>
 (AM l i0).bind fun a=>
 (FN a).bind fun b=>
 if (!b) then
 some (.ret 2)
 else
 (slc l 0 i0).bind fun c=>
 (slices_Contains_string c a).bind fun d=>
 if d then
 some (.ret 5)
 else
 some (.next ())) 0 (l.length:Int) ()) (fun _=>
 some 0) (fun v0=>some v0)
def GD [Ev] (a:Attr) (b:List Attr):dD:=
 (FN a.Name).bind fun d=>
 if (!d) then
 some 2
 else
 (D3 b (fun y0=>Js y0 a)).bind fun e=>
 if e then
 some 5
 else
 (Iq a.Names).bind fun c=>
 if (!decide (c=0)) then
 some c
 else
 (if (decide (0<(a.Names.length:Int))) then
 some ((decide (a.Low=0))&&(decide (a.High=(A4 ((a.Names.length:Int) - 1)))))
 else
 some (((decide ((-1000000)<=a.Low))&&(decide (a.Low<=a.High)))&&(decide (a.High<=1000000)))).bind fun w1=>
 if (!w1) then
 some 6
 else
 some 0
def Jb [Ev] (t:AC) (c:Int):dD:=
 (AM t.Nodes c).bind fun a=>
 (FN a.Name).bind fun e=>
 if (!e) then
 some 2
 else
 (slc t.Nodes 0 c).bind fun f=>
 (DC f (fun y0=>NI y0 a)).bind fun g=>
 if g then
 some 5
 else
 if ((decide (a.Parent<(-1)))||(decide (c<=a.Parent))) then
 some 6
 else
 if (decide (4<(a.Attrs.length:Int))) then
 some 3
 else
 (Kw t c).bind fun b=>
 if (decide (8<(b.length:Int))) then
 some 3
 else
 thenR (forR (ρ:=Int) (fun (i1:Int) (_:Unit)=>
 (AM b i1).bind fun h=>
 (slc b 0 i1).bind fun i=>
 (GD h i).bind fun d=>
 if (!decide (d=0)) then
 some (.ret d)
 else
 some (.next ())) (A4 ((b.length:Int) - (a.Attrs.length:Int))) (b.length:Int) ()) (fun _=>
 some 0) (fun v1=>some v1)
def LR (n:Int) (a:AC):ca:=
 some ((decide (0<=n))&&(decide (n<(a.Nodes.length:Int))))
def EG [Ev] (a:List DF) (f:DF->ca):dD:=
 thenR (forR (ρ:=Int) (fun (i0:Int) (_:Unit)=>
 (AM a i0).bind fun b=>
 (f b).bind fun c=>
 if c then
 some (.ret i0)
 else
 some (.next ())) 0 (a.length:Int) ()) (fun _=>
 some (-1)) (fun v0=>some v0)
def DB [Ev] (a:List DF) (f:DF->ca):ca:=
 (EG a f).bind fun b=>
 some (decide (0<=b))
def NH (y:DF) (a:DF):ca:=
 some (y.Name==a.Name)
def Kg (b:Int) (a:Int):ca:=
 some (((decide (0<=b))&&(decide (b<=40)))&&((decide (a=(-1)))||((decide (b<=a))&&(decide (a<=40)))))
def Ja [Ev] (t:AC) (c:Int):dD:=
 (AM t.Edges c).bind fun a=>
 (FN a.Name).bind fun d=>
 if (!d) then
 some 2
 else
 (slc t.Edges 0 c).bind fun e=>
 (DB e (fun y0=>NH y0 a)).bind fun f=>
 if f then
 some 5
 else
 (LR a.From t).bind fun g=>
 (if (!g) then some true else ((LR a.To t).bind fun h=>
 some (!h))).bind fun b=>
 (if b then
 some b
 else
 (Kg a.OutLow a.OutHigh).bind fun i=>
 (if (!i) then some true else ((Kg a.InLow a.InHigh).bind fun j=>
 some (!j))).bind fun k=>
 some k).bind fun w1=>
 if w1 then
 some 6
 else
 some 0
def GM [Ev] (t:AC):Option (ByteArray × Int):=
 if (decide ((t.Nodes.length:Int)=0)) then
 some ((⟨#[]⟩:ByteArray),7)
 else
 if ((decide (12<(t.Nodes.length:Int)))||(decide (20<(t.Edges.length:Int)))) then
 some ((⟨#[]⟩:ByteArray),3)
 else
 thenR (forR (ρ:=(ByteArray × Int)) (fun (i1:Int) (_:Unit)=>
 (AM t.Nodes i1).bind fun c=>
 (Jb t i1).bind fun a=>
 if (!decide (a=0)) then
 some (.ret (c.Name,a))
 else
 some (.next ())) 0 (t.Nodes.length:Int) ()) (fun _=>
 thenR (forR (ρ:=(ByteArray × Int)) (fun (i3:Int) (_:Unit)=>
 (AM t.Edges i3).bind fun d=>
 (Ja t i3).bind fun b=>
 if (!decide (b=0)) then
 some (.ret (d.Name,b))
 else
 some (.next ())) 0 (t.Edges.length:Int) ()) (fun _=>
 some ((⟨#[]⟩:ByteArray),0)) (fun v3=>some v3)) (fun v1=>some v1)
def FW [Ev] (a:Ne) (f:Int->ca):dD:=
 thenR (forR (ρ:=Int) (fun (i0:Int) (_:Unit)=>
 (AM a i0).bind fun b=>
 (f b).bind fun c=>
 if c then
 some (.ret i0)
 else
 some (.next ())) 0 (a.length:Int) ()) (fun _=>
 some (-1)) (fun v0=>some v0)
def B5 [Ev] (a:Ne) (f:Int->ca):ca:=
 (FW a f).bind fun b=>
 some (decide (0<=b))
def Iz (n:Int) (a:Int):ca:=
 some ((decide (0<=n))&&(decide (n<=a)))
def MF (t:Int):ca:=
 (Iz t 99).bind fun a=>
 some (!a)
def FE [Ev] (a:List DY) (f:DY->ca):dD:=
 thenR (forR (ρ:=Int) (fun (i0:Int) (_:Unit)=>
 (AM a i0).bind fun b=>
 (f b).bind fun c=>
 if c then
 some (.ret i0)
 else
 some (.next ())) 0 (a.length:Int) ()) (fun _=>
 some (-1)) (fun v0=>some v0)
def CL [Ev] (a:List DY) (f:DY->ca):ca:=
 (FE a f).bind fun b=>
 some (decide (0<=b))
def Mx (e:DY) (a:Int):ca:=
 (Iz e.Type' 99).bind fun g=>
 (if g then ((Iz e.From (A4 (a - 1))).bind fun b=>
 some (b)) else some false).bind fun c=>
 (if c then ((Iz e.To (A4 (a - 1))).bind fun d=>
 some (d)) else some false).bind fun f=>
 some f
def MG (e:DY) (b:Graph):ca:=
 (Mx e (b.Nodes.length:Int)).bind fun a=>
 some (!a)
def EZ [Ev] (g:Graph):dD:=
 if ((decide (40<(g.Nodes.length:Int)))||(decide (80<(g.Edges.length:Int)))) then
 some 3
 else
 (B5 g.Nodes MF).bind fun a=>
 if a then
 some 6
 else
 (CL g.Edges (fun y0=>MG y0 g)).bind fun b=>
 if b then
 some 6
 else
 some 0
def MK (a:Int) (b:AC):ca:=
 some ((decide (a<0))||(decide ((b.Nodes.length:Int)<=a)))
def HM [Ev] (t:AC) (l:Ne):dD:=
 (GM t).bind fun b=>
 if (!decide (b.2=0)) then
 some b.2
 else
 (B5 l (fun y0=>MK y0 t)).bind fun a=>
 if a then
 some 6
 else
 some 0
def slices_Clone_string (a:List ByteArray):Option (List ByteArray):=
 B0 [] a
def IC [Ev] (t:AC) (a:Int):Option (List Attr × Int):=
 (HM t [a]).bind fun c=>
 if (!decide (c=0)) then
 some ([],c)
 else
 (Kw t a).bind fun d=>
 (forA (fun (i0:Int) (s0:List Attr)=>
 (AM s0 i0).bind fun e=>
 (slices_Clone_string e.Names).bind fun f=>
 (AM s0 i0).bind fun b=>
 some (B1 s0 i0 (Attr.mk b.Name b.Low b.High f))) 0 (d.length:Int) d).bind fun s0=>
 some (s0,0)
def KG [Ev] (t:AC) (a:Int) (h:Ne):dD:=
 if (decide ((t.Nodes.length:Int)<=a)) then
 some 6
 else
 (AM t.Nodes a).bind fun d=>
 if d.Abstract then
 some 13
 else
 (IC t a).bind fun b=>
 if (!decide ((h.length:Int)=(b.1.length:Int))) then
 some 20
 else
 thenR (forR (ρ:=Int) (fun (i0:Int) (_:Unit)=>
 (AM b.1 i0).bind fun c=>
 (AM h i0).bind fun e=>
 (if (decide (e<c.Low)) then some true else ((AM h i0).bind fun f=>
 some (decide (c.High<f)))).bind fun g=>
 if g then
 some (.ret 6)
 else
 some (.next ())) 0 (b.1.length:Int) ()) (fun _=>
 some 0) (fun v0=>some v0)
def slices_Index_int (a:Ne) (c:Int):dD:=
 thenR (forR (ρ:=Int) (fun (i0:Int) (_:Unit)=>
 (AM a i0).bind fun b=>
 if (decide (c=b)) then
 some (.ret i0)
 else
 some (.next ())) 0 (a.length:Int) ()) (fun _=>
 some (-1)) (fun v0=>some v0)
def slices_Contains_int (b:Ne) (a:Int):ca:=
 (slices_Index_int b a).bind fun c=>
 some (decide (0<=c))
def slices_Reverse_int (l:Ne):Option Ne:=if l.length<=BM then some l.reverse else none
def KV [Ev] (t:AC) (a:Int):Option Ne:=
 thenR (I7 (ρ:=Ne) (fun (s0:Int × Ne)=>
 if (decide (0<=s0.1)) then
 (B0 s0.2 [s0.1]).bind fun b=>
 (AM t.Nodes s0.1).bind fun c=>
 some (.next (c.Parent,b))
 else
 some (.brk (s0.1,s0.2))) (a,[])) (fun s0=>
 (slices_Reverse_int s0.2).bind fun d=>
 some d) (fun v0=>some v0)
def Jm [Ev] (t:AC) (a:Int) (b:Int):ca:=
 (KV t a).bind fun d=>
 (slices_Contains_int d b).bind fun c=>
 some c
def JZ [Ev] (t:AC) (a:Int) (b:Int) (c:Int):ca:=
 (HM t [b,c]).bind fun d=>
 if (((!decide (d=0))||(decide (a<0)))||(decide ((t.Edges.length:Int)<=a))) then
 some false
 else
 (AM t.Edges a).bind fun e=>
 (Jm t b e.From).bind fun f=>
 (if f then ((AM t.Edges a).bind fun g=>
 (Jm t c g.To).bind fun h=>
 some (h)) else some false).bind fun i=>
 some i
def H7 [Ev] (t:AC) (a:AT):Option (Int × Int):=
 (GM t).bind fun c=>
 if (!decide (c.2=0)) then
 some ((-1),c.2)
 else
 (EZ a.Graph).bind fun d=>
 if (!decide (d=0)) then
 some ((-1),d)
 else
 if (!decide ((a.Values.length:Int)=(a.Graph.Nodes.length:Int))) then
 some ((-1),20)
 else
 thenR (forR (ρ:=(Int × Int)) (fun (i0:Int) (_:Unit)=>
 (AM a.Graph.Nodes i0).bind fun f=>
 (AM a.Values i0).bind fun g=>
 (KG t f g).bind fun e=>
 if (!decide (e=0)) then
 some (.ret (i0,e))
 else
 some (.next ())) 0 (a.Graph.Nodes.length:Int) ()) (fun _=>
 thenR (forR (ρ:=(Int × Int)) (fun (i2:Int) (_:Unit)=>
 (AM a.Graph.Edges i2).bind fun b=>
 if (decide ((t.Edges.length:Int)<=b.Type')) then
 some (.ret (i2,6))
 else
 (AM a.Graph.Nodes b.From).bind fun h=>
 (AM a.Graph.Nodes b.To).bind fun i=>
 (JZ t b.Type' h i).bind fun j=>
 if (!j) then
 some (.ret (i2,13))
 else
 some (.next ())) 0 (a.Graph.Edges.length:Int) ()) (fun _=>
 some ((-1),0)) (fun v2=>some v2)) (fun v0=>some v0)
def IZ (n:Int) (a:AC):ca:=
 some (decide ((a.Nodes.length:Int)<=n))
def Ia (a:DY) (b:AC):ca:=
 some (decide ((b.Edges.length:Int)<=a.Type'))
def D2 (n:Int) (b:Int) (a:Int):ca:=
 some ((decide (b<=n))&&(decide (n<=a)))
def G2 [Ev] (t:AC) (p:Pattern) (a:EI):Option (Attr × Bool):=
 (D2 a.Node 0 (A4 ((p.Graph.Nodes.length:Int) - 1))).bind fun c=>
 if (!c) then
 some (Attr.mk (⟨#[]⟩:ByteArray) 0 0 [],false)
 else
 (AM p.Graph.Nodes a.Node).bind fun d=>
 (IC t d).bind fun b=>
 (D2 a.Attr 0 (A4 ((b.1.length:Int) - 1))).bind fun e=>
 if (!e) then
 some (Attr.mk (⟨#[]⟩:ByteArray) 0 0 [],false)
 else
 (AM b.1 a.Attr).bind fun f=>
 some (f,true)
def JM (n:Int) (t:Term):ca:=
 some ((((decide ((-1)<=t.Var))&&(decide (t.Var<n)))&&(decide ((-1000000)<=t.Add)))&&(decide (t.Add<=1000000)))
def Jz (n:Int) (a:Test):dD:=
 if ((!decide (a.Kind=1))&&(!decide (a.Kind=2))) then
 some 1
 else
 (JM n a.Left).bind fun b=>
 (if (!b) then some true else ((JM n a.Right).bind fun c=>
 some (!c))).bind fun d=>
 if d then
 some 6
 else
 some 0
def Ix (n:Int) (l:List Test):dD:=
 if ((decide (n<0))||(decide (12<n))) then
 some 6
 else
 if (decide (40<(l.length:Int))) then
 some 3
 else
 thenR (forR (ρ:=Int) (fun (i0:Int) (_:Unit)=>
 (AM l i0).bind fun b=>
 (Jz n b).bind fun a=>
 if (!decide (a=0)) then
 some (.ret a)
 else
 some (.next ())) 0 (l.length:Int) ()) (fun _=>
 some 0) (fun v0=>some v0)
def Jq (a:d0) (c:Bool):dD:=
 thenR (forR (ρ:=Int) (fun (i0:Int) (_:Unit)=>
 (AM a i0).bind fun b=>
 if (c==b) then
 some (.ret i0)
 else
 some (.next ())) 0 (a.length:Int) ()) (fun _=>
 some (-1)) (fun v0=>some v0)
def Hr (b:d0) (a:Bool):ca:=
 (Jq b a).bind fun c=>
 some (decide (0<=c))
def EP [Ev] (t:AC) (p:Pattern):dD:=
 (GM t).bind fun c=>
 if (!decide (c.2=0)) then
 some c.2
 else
 (EZ p.Graph).bind fun d=>
 if (!decide (d=0)) then
 some d
 else
 (B5 p.Graph.Nodes (fun y0=>IZ y0 t)).bind fun f=>
 (if f then some true else ((CL p.Graph.Edges (fun y0=>Ia y0 t)).bind fun g=>
 some (g))).bind fun h=>
 if h then
 some 13
 else
 (D2 p.Vars 0 12).bind fun i=>
 if (!i) then
 some 6
 else
 if ((decide (10<(p.Slots.length:Int)))||(decide (10<(p.Tests.length:Int)))) then
 some 3
 else
 (Jn p.Vars false).bind fun j=>
 thenR (forR (ρ:=Int) (fun (i0:Int) (s0:d0)=>
 (AM p.Slots i0).bind fun a=>
 (G2 t p a).bind fun k=>
 (if (!k.2) then some true else ((D2 a.Term.Var (-1) (A4 (p.Vars - 1))).bind fun l=>
 some (!l))).bind fun m=>
 (if m then some true else ((D2 a.Term.Add (-1000000) 1000000).bind fun n=>
 some (!n))).bind fun o=>
 if o then
 some (.ret 6)
 else
 if (decide (0<=a.Term.Var)) then
 (AM s0 a.Term.Var).bind fun q=>
 some (.next (B1 s0 a.Term.Var true))
 else
 some (.next s0)) 0 (p.Slots.length:Int) j) (fun s0=>
 (Ix p.Vars p.Tests).bind fun b=>
 if (!decide (b=0)) then
 some b
 else
 (Hr s0 false).bind fun e=>
 if e then
 some 9
 else
 some 0) (fun v0=>some v0)
def EA [Ev] (a:List AA) (f:AA->ca):dD:=
 thenR (forR (ρ:=Int) (fun (i0:Int) (_:Unit)=>
 (AM a i0).bind fun b=>
 (f b).bind fun c=>
 if c then
 some (.ret i0)
 else
 some (.next ())) 0 (a.length:Int) ()) (fun _=>
 some (-1)) (fun v0=>some v0)
def B6 [Ev] (a:List AA) (f:AA->ca):ca:=
 (EA a f).bind fun b=>
 some (decide (0<=b))
def G3 (c:AA):ca:=
 some ((decide ((A4 ((A4 ((A4 ((A4 ((A4 ((c.Map.Nodes.length:Int)+(c.Map.Edges.length:Int)))+(c.Pattern.Graph.Nodes.length:Int)))+(c.Pattern.Graph.Edges.length:Int)))+(c.Pattern.Slots.length:Int)))+(c.Pattern.Tests.length:Int)))=0))&&(decide (c.Pattern.Vars=0)))
mutual
def B8 [Ev]:Nat->AA->ca
 | 0,_=>none
 | n+1,c=>
  (if (decide (c.Kind=1)) then
  (if (decide ((c.Kids.length:Int)=0)) then ((G3 c).bind fun d=>
  some (d)) else some false).bind fun e=>
  some e
  else
  if (decide (c.Kind=2)) then
  (if (decide ((c.Kids.length:Int)=1)) then ((G3 c).bind fun f=>
  some (f)) else some false).bind fun g=>
  some g
  else
  if (decide (c.Kind=3)) then
  if (decide (c.Kind=3)) then
  (if (decide (1<=(c.Kids.length:Int))) then ((G3 c).bind fun a=>
  some (a)) else some false).bind fun b=>
  some b
  else
  if (decide (c.Kind=5)) then
  some (decide ((c.Kids.length:Int)=1))
  else
  some false
  else
  if (decide (c.Kind=4)) then
  (if (decide (1<=(c.Kids.length:Int))) then ((G3 c).bind fun a=>
  some (a)) else some false).bind fun b=>
  some b
  else
  if (decide (c.Kind=5)) then
  some (decide ((c.Kids.length:Int)=1))
  else
  some false).bind fun w1=>
  (if w1 then ((B6 c.Kids (CJ n)).bind fun h=>
  some (!h)) else some false).bind fun i=>
  some i
def CJ [Ev]:Nat->AA->ca
 | 0,_=>none
 | n+1,k=>
  (B8 n k).bind fun a=>
  some (!a)
end
def HT [Ev] (c:AA):ca:=HH fun n=>B8 n c
def Ph [Ev] (k:AA):ca:=HH fun n=>CJ n k
def DG [Ev]:Nat->AA->Option (Int × Int)
 | 0,_=>none
 | n+1,c=>
  (forA (fun (i0:Int) (s0:Int × Int)=>
  (AM c.Kids i0).bind fun b=>
  (DG n b).bind fun a=>
  some (A4 (s0.1+a.1),max s0.2 a.2)) 0 (c.Kids.length:Int) (1,0)).bind fun s0=>
  (if (decide (c.Kind=5)) then
  some (A4 (s0.2+1))
  else
  some s0.2).bind fun w1=>
  some (s0.1,w1)
def Ic [Ev] (c:AA):Option (Int × Int):=HH fun n=>DG n c
def F7 [Ev] (c:AA):dD:=
 (HT c).bind fun b=>
 if (!b) then
 some 1
 else
 (Ic c).bind fun a=>
 if ((decide (12<a.1))||(decide (3<a.2))) then
 some 3
 else
 some 0
def FG [Ev] (a:List EI) (f:EI->ca):dD:=
 thenR (forR (ρ:=Int) (fun (i0:Int) (_:Unit)=>
 (AM a i0).bind fun b=>
 (f b).bind fun c=>
 if c then
 some (.ret i0)
 else
 some (.next ())) 0 (a.length:Int) ()) (fun _=>
 some (-1)) (fun v0=>some v0)
def D4 [Ev] (a:List EI) (f:EI->ca):ca:=
 (FG a f).bind fun b=>
 some (decide (0<=b))
def I8 (a:EI) (b:Int):ca:=
 some (decide (a.Term.Var=b))
def E3 [Ev] (t:AC) (q:Pattern) (b:Int):dD:=
 (EP t q).bind fun a=>
 if (!decide (a=9)) then
 some a
 else
 thenR (I7 (ρ:=Int) (fun (s0:Int)=>
 if (decide (s0<q.Vars)) then
 (D4 q.Slots (fun y0=>I8 y0 s0)).bind fun c=>
 if (!c) then
 some (.ret a)
 else
 some (.next (A4 (s0+1)))
 else
 some (.brk s0)) b) (fun s0=>
 some 0) (fun v0=>some v0)
def FR [Ev] (a:Graph) (b:Graph) (m:Morphism):dD:=
 (EZ a).bind fun g=>
 if (!decide (g=0)) then
 some g
 else
 (EZ b).bind fun h=>
 if (!decide (h=0)) then
 some h
 else
 if ((!decide ((m.Nodes.length:Int)=(a.Nodes.length:Int)))||(!decide ((m.Edges.length:Int)=(a.Edges.length:Int)))) then
 some 20
 else
 thenR (forR (ρ:=Int) (fun (i0:Int) (_:Unit)=>
 (AM m.Nodes i0).bind fun c=>
 if ((decide (c<0))||(decide ((b.Nodes.length:Int)<=c))) then
 some (.ret 6)
 else
 (AM b.Nodes c).bind fun l=>
 (AM a.Nodes i0).bind fun n=>
 if (!decide (l=n)) then
 some (.ret 13)
 else
 some (.next ())) 0 (m.Nodes.length:Int) ()) (fun _=>
 thenR (forR (ρ:=Int) (fun (i2:Int) (_:Unit)=>
 (AM m.Edges i2).bind fun d=>
 if ((decide (d<0))||(decide ((b.Edges.length:Int)<=d))) then
 some (.ret 6)
 else
 (AM a.Edges i2).bind fun e=>
 (AM b.Edges d).bind fun f=>
 if (!decide (e.Type'=f.Type')) then
 some (.ret 13)
 else
 (AM m.Nodes e.From).bind fun i=>
 (if (!decide (i=f.From)) then some true else ((AM m.Nodes e.To).bind fun j=>
 some (!decide (j=f.To)))).bind fun k=>
 if k then
 some (.ret 11)
 else
 some (.next ())) 0 (m.Edges.length:Int) ()) (fun _=>
 some 0) (fun v2=>some v2)) (fun v0=>some v0)
def slices_Clone_int (a:Ne):Option Ne:=
 B0 [] a
def slices_Sort_int (l:Ne):Option Ne:=if l.length<=BM then some (Nk l) else none
def slices_Compact_int (l:Ne):Option Ne:=if l.length<=BM then some (Go.Lib.compact l) else none
def IT (l:Ne):dD:=
 (slices_Clone_int l).bind fun a=>
 (slices_Sort_int a).bind fun b=>
 (slices_Compact_int b).bind fun c=>
 some (c.length:Int)
def ES [Ev] (a:Graph) (b:Graph) (m:Morphism):ca:=
 (FR a b m).bind fun c=>
 (if (decide (c=0)) then ((IT m.Nodes).bind fun d=>
 some (decide (d=(m.Nodes.length:Int)))) else some false).bind fun e=>
 (if e then ((IT m.Edges).bind fun f=>
 some (decide (f=(m.Edges.length:Int)))) else some false).bind fun g=>
 some g
def C2 [Ev]:Nat->AC->Pattern->AA->dD
 | 0,_,_,_=>none
 | n+1,t,p,c=>
  if (decide (c.Kind=5)) then
  if (decide (c.Pattern.Vars<p.Vars)) then
  some 20
  else
  (E3 t c.Pattern p.Vars).bind fun d=>
  if (!decide (d=0)) then
  some d
  else
  (FR p.Graph c.Pattern.Graph c.Map).bind fun e=>
  if (!decide (e=0)) then
  some e
  else
  (ES p.Graph c.Pattern.Graph c.Map).bind fun f=>
  if (!f) then
  some 1
  else
  thenR (forR (ρ:=Int) (fun (i0:Int) (_:Unit)=>
  (AM c.Kids i0).bind fun b=>
  (C2 n t c.Pattern b).bind fun a=>
  if (!decide (a=0)) then
  some (.ret a)
  else
  some (.next ())) 0 (c.Kids.length:Int) ()) (fun _=>
  some 0) (fun v0=>some v0)
  else
  thenR (forR (ρ:=Int) (fun (i0:Int) (_:Unit)=>
  (AM c.Kids i0).bind fun b=>
  (C2 n t p b).bind fun a=>
  if (!decide (a=0)) then
  some (.ret a)
  else
  some (.next ())) 0 (c.Kids.length:Int) ()) (fun _=>
  some 0) (fun v0=>some v0)
def KN [Ev] (t:AC) (p:Pattern) (c:AA):dD:=HH fun n=>C2 n t p c
def EQ [Ev] (t:AC) (p:Pattern) (c:AA):dD:=
 (EP t p).bind fun a=>
 if (!decide (a=0)) then
 some a
 else
 (F7 c).bind fun b=>
 if (!decide (b=0)) then
 some b
 else
 (KN t p c).bind fun d=>
 some d
def K1 (n:Int) (a:AC):ca:=
 some (decide ((a.Nodes.length:Int)<=n))
def K3 (a:DY) (b:AC):ca:=
 some (decide ((b.Edges.length:Int)<=a.Type'))
def GW [Ev] (t:AC) (g:Graph):ca:=
 (B5 g.Nodes (fun y0=>K1 y0 t)).bind fun c=>
 (if (!c) then ((CL g.Edges (fun y0=>K3 y0 t)).bind fun a=>
 some (!a)) else some false).bind fun b=>
 some b
def Hq [Ev] (t:AC) (p:Graph) (g:Graph):dD:=
 (GM t).bind fun a=>
 if (!decide (a.2=0)) then
 some a.2
 else
 thenR (forR (ρ:=Int) (fun (i0:Int) (_:Unit)=>
 (AM [p,g] i0).bind fun c=>
 (EZ c).bind fun b=>
 if (!decide (b=0)) then
 some (.ret b)
 else
 some (.next ())) 0 ([p,g].length:Int) ()) (fun _=>
 (GW t p).bind fun d=>
 (if (!d) then some true else ((GW t g).bind fun e=>
 some (!e))).bind fun f=>
 if f then
 some 13
 else
 some 0) (fun v0=>some v0)
def Ip [Ev] (t:AC) (a:Int):Option (Ne × Int):=
 (HM t [a]).bind fun b=>
 if (!decide (b=0)) then
 some ([],b)
 else
 (forA (fun (i0:Int) (s0:Ne)=>
 (Jm t i0 a).bind fun c=>
 if c then
 (B0 s0 [i0]).bind fun d=>
 some d
 else
 some s0) 0 (t.Nodes.length:Int) []).bind fun s0=>
 some (s0,0)
def Hp [Ev] (t:AC):Option (List d0):=
 (forA (fun (i0:Int) (s0:List d0)=>
 (Jn (t.Nodes.length:Int) false).bind fun c=>
 (Ip t i0).bind fun a=>
 (forA (fun (i2:Int) (s2:d0)=>
 (AM a.1 i2).bind fun b=>
 (AM s2 b).bind fun e=>
 some (B1 s2 b true)) 0 (a.1.length:Int) c).bind fun s2=>
 (B0 s0 [s2]).bind fun d=>
 some d) 0 (t.Nodes.length:Int) []).bind fun s0=>
 some s0
def IL [Ev] (t:AC) (p:Graph) (g:Graph) (m:Morphism):dD:=
 if ((!decide ((m.Nodes.length:Int)=(p.Nodes.length:Int)))||(!decide ((m.Edges.length:Int)=(p.Edges.length:Int)))) then
 some 20
 else
 (Hp t).bind fun i=>
 thenR (forR (ρ:=Int) (fun (i0:Int) (_:Unit)=>
 (AM m.Nodes i0).bind fun a=>
 if ((decide (a<0))||(decide ((g.Nodes.length:Int)<=a))) then
 some (.ret 6)
 else
 (AM p.Nodes i0).bind fun j=>
 (AM i j).bind fun k=>
 (AM g.Nodes a).bind fun l=>
 (AM k l).bind fun n=>
 if (!n) then
 some (.ret 13)
 else
 some (.next ())) 0 (m.Nodes.length:Int) ()) (fun _=>
 thenR (forR (ρ:=Int) (fun (i2:Int) (_:Unit)=>
 (AM m.Edges i2).bind fun b=>
 if ((decide (b<0))||(decide ((g.Edges.length:Int)<=b))) then
 some (.ret 6)
 else
 (AM p.Edges i2).bind fun c=>
 (AM g.Edges b).bind fun d=>
 if (!decide (c.Type'=d.Type')) then
 some (.ret 13)
 else
 (AM m.Nodes c.From).bind fun e=>
 (if (!decide (e=d.From)) then some true else ((AM m.Nodes c.To).bind fun f=>
 some (!decide (f=d.To)))).bind fun h=>
 if h then
 some (.ret 11)
 else
 some (.next ())) 0 (m.Edges.length:Int) ()) (fun _=>
 some 0) (fun v2=>some v2)) (fun v0=>some v0)
def I6 (l:Ne):ca:=if l.length<=4096 then some (dupB l) else none
def Ho [Ev] (t:AC) (p:Graph) (g:Graph) (m:Morphism) (a:Bool):dD:=
 (Hq t p g).bind fun b=>
 if (!decide (b=0)) then
 some b
 else
 (IL t p g m).bind fun c=>
 if (!decide (c=0)) then
 some c
 else
 (if a then ((I6 m.Nodes).bind fun d=>
 (if d then some true else ((I6 m.Edges).bind fun e=>
 some (e))).bind fun f=>
 some (f)) else some false).bind fun h=>
 if h then
 some 5
 else
 some 0
def F3 [Ev] (t:AC) (p:Pattern) (c:AT):dD:=
 (EP t p).bind fun a=>
 if (!decide (a=0)) then
 some a
 else
 (H7 t c).bind fun b=>
 some b.2
def JR (a b c:Int):Option (Int × Int):=if (0<=a∧a<18446744073709551616)∧(0<=b∧b<18446744073709551616)∧0<=c∧c<=1 then some ((a+b+c) % 18446744073709551616,(a+b+c) / 18446744073709551616) else none
def IQ (a:Int) (b:Int):Option (Int × Int):=
 (JR (IntKind.u64.wrap a) (IntKind.u64.wrap b) 0).bind fun c=>
 (Lu .i64 .shr a 63).bind fun d=>
 (Lu .i64 .shr b 63).bind fun e=>
 some (A4 ((A4 (d+e))+(A4 c.2)),c.1)
def G4 (t:Term) (d:Ne):Option (Int × Int × Bool):=
 if (decide (t.Var=(-1))) then
 (IQ 0 t.Add).bind fun a=>
 some (a.1,a.2,true)
 else
 if ((decide (t.Var<0))||(decide ((d.length:Int)<=t.Var))) then
 some (0,0,false)
 else
 (AM d t.Var).bind fun c=>
 (IQ c t.Add).bind fun b=>
 some (b.1,b.2,true)
def Mr (a:Ne):dD:=
 thenR (forR (ρ:=Int) (fun (i0:Int) (_:Unit)=>
 (AM a i0).bind fun b=>
 if (!decide (b=0)) then
 some (.ret b)
 else
 some (.next ())) 0 (a.length:Int) ()) (fun _=>
 some 0) (fun v0=>some v0)
def cmp_isNaN_int (a:Int):ca:=
 some (!decide (a=a))
def cmp_Compare_int (a:Int) (y:Int):dD:=
 (cmp_isNaN_int a).bind fun c=>
 (cmp_isNaN_int y).bind fun b=>
 if c then
 if b then
 some 0
 else
 some (-1)
 else
 if b then
 some 1
 else
 if (decide (a<y)) then
 some (-1)
 else
 if (decide (y<a)) then
 some 1
 else
 some 0
def KM (a:Int):ca:=
 some (!decide (a=a))
def JL (a:Int) (y:Int):dD:=
 (KM a).bind fun c=>
 (KM y).bind fun b=>
 if c then
 if b then
 some 0
 else
 some (-1)
 else
 if b then
 some 1
 else
 if (decide (a<y)) then
 some (-1)
 else
 if (decide (y<a)) then
 some 1
 else
 some 0
def GZ (a:Test) (g:Ne):ca:=
 (G4 a.Left g).bind fun b=>
 (G4 a.Right g).bind fun c=>
 if ((!b.2.2)||(!c.2.2)) then
 some false
 else
 (cmp_Compare_int b.1 c.1).bind fun e=>
 (JL b.2.1 c.2.1).bind fun f=>
 (Mr [e,f]).bind fun d=>
 some (((decide (a.Kind=1))&&(decide (d<=0)))||((decide (a.Kind=2))&&(decide (d=0))))
def F4 (a:Term) (c:Ne):dD:=
 if (decide (a.Var<0)) then
 some a.Add
 else
 (AM c a.Var).bind fun b=>
 some (A4 (b+a.Add))
def JI (p:Pattern) (l:AT) (m:Morphism):Option (Ne × Int):=
 (Jn p.Vars 0).bind fun d=>
 (Jn p.Vars false).bind fun e=>
 thenR (forR (ρ:=(Ne × Int)) (fun (i0:Int) (s0:Ne × d0)=>
 (AM p.Slots i0).bind fun a=>
 (AM m.Nodes a.Node).bind fun f=>
 (AM l.Values f).bind fun g=>
 (AM g a.Attr).bind fun b=>
 (if (decide (0<=a.Term.Var)) then ((AM s0.2 a.Term.Var).bind fun h=>
 some (!h)) else some false).bind fun i=>
 if i then
 (AM s0.1 a.Term.Var).bind fun n=>
 (AM s0.2 a.Term.Var).bind fun o=>
 (F4 a.Term (B1 s0.1 a.Term.Var (A4 (b - a.Term.Add)))).bind fun c=>
 if (!decide (c=b)) then
 some (.ret ([],11))
 else
 some (.next (B1 s0.1 a.Term.Var (A4 (b - a.Term.Add)),B1 s0.2 a.Term.Var true))
 else
 (F4 a.Term s0.1).bind fun c=>
 if (!decide (c=b)) then
 some (.ret ([],11))
 else
 some (.next (s0.1,s0.2))) 0 (p.Slots.length:Int) (d,e)) (fun s0=>
 thenR (forR (ρ:=(Ne × Int)) (fun (i2:Int) (_:Unit)=>
 (AM p.Tests i2).bind fun j=>
 (GZ j s0.1).bind fun k=>
 if (!k) then
 some (.ret ([],16))
 else
 some (.next ())) 0 (p.Tests.length:Int) ()) (fun _=>
 some (s0.1,0)) (fun v2=>some v2)) (fun v0=>some v0)
def F2 [Ev] (t:AC) (p:Pattern) (a:AT) (m:Morphism):Option (Ne × Int):=
 (F3 t p a).bind fun b=>
 if (!decide (b=0)) then
 some ([],b)
 else
 (Ho t p.Graph a.Graph m false).bind fun c=>
 if (!decide (c=0)) then
 some ([],c)
 else
 (JI p a m).bind fun d=>
 some (d.1,d.2)
def F6 [Ev] (t:AC) (p:Pattern) (c:AA) (d:AT) (m:AF) (a:Bool):dD:=
 (EQ t p c).bind fun e=>
 if (!decide (e=0)) then
 some e
 else
 (H7 t d).bind fun f=>
 if (!decide (f.2=0)) then
 some f.2
 else
 (Ho t p.Graph d.Graph m.Morphism a).bind fun g=>
 if (!decide (g=0)) then
 some g
 else
 (F2 t p d m.Morphism).bind fun b=>
 if (!decide (b.2=0)) then
 some b.2
 else
 (slices_Equal_int b.1 m.Vars).bind fun h=>
 if (!h) then
 some 11
 else
 some 0
def MI (k:Int) (a:Int):ca:=
 some ((decide (k<(-1)))||(decide (a<=k)))
def IA [Ev] (l:Ne) (n:Int):dD:=
 (B5 l (fun y0=>MI y0 n)).bind fun a=>
 if a then
 some 6
 else
 some 0
def I5 (l:Ne) (a:Int):dD:=
 (Wg l).bind fun c=>
 (AM l a).bind fun b=>
 some b
def FC (f:AN) (c:Int) (k:Int):ca:=
 (AM f.p.Edges c).bind fun a=>
 (I5 f.partial_.Edges c).bind fun b=>
 if ((decide (0<=b))&&(!decide (b=k))) then
 some false
 else
 (AM f.g.Edges k).bind fun d=>
 (AM f.nodes a.From).bind fun e=>
 (AM f.nodes a.To).bind fun h=>
 some (decide (d=(DY.mk a.Type' e h)))
def C9 (f:AN):ca:=
 thenR (forR (ρ:=Bool) (fun (i0:Int) (_:Unit)=>
 (AM f.p.Edges i0).bind fun a=>
 if (!decide ((max a.From a.To)=(A4 ((f.nodes.length:Int) - 1)))) then
 some (.next ())
 else
 thenR (forR (ρ:=Bool) (fun (i2:Int) (s2:Bool)=>
 (FC f i0 i2).bind fun b=>
 if b then
 some (.brk true)
 else
 some (.next s2)) 0 (f.g.Edges.length:Int) false) (fun s2=>
 if (!s2) then
 some (.ret false)
 else
 some (.next ())) (fun v2=>some (.ret v2))) 0 (f.p.Edges.length:Int) ()) (fun _=>
 some true) (fun v0=>some v0)
def BF [Ev]:Nat->AN->Option AN
 | 0,_=>none
 | n+1,f=>
  (if (decide ((f.out.length:Int)=f.most)) then
  some f
  else
  if (decide ((f.nodes.length:Int)<(f.p.Nodes.length:Int))) then
  (forA (fun (i1:Int) (s1:AN)=>
  (AM f.g.Nodes i1).bind fun u=>
  (I5 s1.partial_.Nodes (f.nodes.length:Int)).bind fun e=>
  (if ((decide (0<=e))&&(!decide (e=i1))) then some true else ((AM s1.p.Nodes (f.nodes.length:Int)).bind fun v=>
  (AM s1.is v).bind fun w=>
  (AM w u).bind fun x=>
  some (!x))).bind fun h=>
  (if h then some true else ((if s1.injective then ((slices_Contains_int s1.nodes i1).bind fun i=>
  some (i)) else some false).bind fun j=>
  some (j))).bind fun k=>
  if k then
  some s1
  else
  (B0 s1.nodes [i1]).bind fun c=>
  (C9 (AN.mk s1.p s1.g s1.is s1.partial_ s1.injective s1.most c s1.edges s1.out)).bind fun l=>
  if l then
  (BF n (AN.mk s1.p s1.g s1.is s1.partial_ s1.injective s1.most c s1.edges s1.out)).bind fun a=>
  (slc a.nodes 0 (f.nodes.length:Int)).bind fun d=>
  some (AN.mk a.p a.g a.is a.partial_ a.injective a.most d a.edges a.out)
  else
  (slc c 0 (f.nodes.length:Int)).bind fun d=>
  some (AN.mk s1.p s1.g s1.is s1.partial_ s1.injective s1.most d s1.edges s1.out)) 0 (f.g.Nodes.length:Int) f).bind fun s1=>
  some s1
  else
  if (decide ((f.edges.length:Int)<(f.p.Edges.length:Int))) then
  (forA (fun (i3:Int) (s3:AN)=>
  (FC s3 (f.edges.length:Int) i3).bind fun m=>
  (if (!m) then some true else ((if s3.injective then ((slices_Contains_int s3.edges i3).bind fun o=>
  some (o)) else some false).bind fun q=>
  some (q))).bind fun r=>
  if r then
  some s3
  else
  (B0 s3.edges [i3]).bind fun s=>
  (BF n (AN.mk s3.p s3.g s3.is s3.partial_ s3.injective s3.most s3.nodes s s3.out)).bind fun b=>
  (slc b.edges 0 (f.edges.length:Int)).bind fun t=>
  some (AN.mk b.p b.g b.is b.partial_ b.injective b.most b.nodes t b.out)) 0 (f.g.Edges.length:Int) f).bind fun s3=>
  some s3
  else
  (slices_Clone_int f.nodes).bind fun y=>
  (slices_Clone_int f.edges).bind fun z=>
  (B0 f.out [Morphism.mk y z]).bind fun A=>
  some (AN.mk f.p f.g f.is f.partial_ f.injective f.most f.nodes f.edges A)).bind fun w1=>
  some w1
def G1 [Ev] (f:AN):Option AN:=HH fun n=>BF n f
def IK [Ev] (t:AC) (p:Graph) (g:Graph) (b:Morphism) (a:Bool) (c:Int):Option (List Morphism):=
 (Hp t).bind fun d=>
 (G1 (AN.mk p g d b a c [] [] [])).bind fun e=>
 some e.out
def KU [Ev] (t:AC) (p:Graph) (g:Graph) (b:Morphism) (a:Bool):Option (List Morphism × Int):=
 (IK t p g b a 5001).bind fun c=>
 if (decide (5000<(c.length:Int))) then
 some ([],3)
 else
 some (c,0)
def GV [Ev] (t:AC) (p:Graph) (g:Graph) (a:Morphism) (b:Bool):Option (List Morphism × Int):=
 (Hq t p g).bind fun c=>
 if (!decide (c=0)) then
 some ([],c)
 else
 if ((!decide ((a.Nodes.length:Int)=(p.Nodes.length:Int)))||(!decide ((a.Edges.length:Int)=(p.Edges.length:Int)))) then
 some ([],20)
 else
 (IA a.Nodes (g.Nodes.length:Int)).bind fun d=>
 if (!decide (d=0)) then
 some ([],d)
 else
 (IA a.Edges (g.Edges.length:Int)).bind fun e=>
 if (!decide (e=0)) then
 some ([],e)
 else
 (KU t p g a b).bind fun f=>
 some (f.1,f.2)
def EL (l:Ne) (n:Int):Option Ne:=if l.length=1∧0<=n∧n<=4096 then some (List.replicate n.toNat (l.headD 0)) else none
def H1 (n:Int) (e:Ne) (a:Ne):Option Ne:=
 (EL [(-1)] n).bind fun c=>
 (forA (fun (i0:Int) (s0:Ne)=>
 (AM e i0).bind fun b=>
 (AM a i0).bind fun d=>
 (AM s0 b).bind fun f=>
 some (B1 s0 b d)) 0 (e.length:Int) c).bind fun s0=>
 some s0
def H0 (a:Term) (d:Ne):Option (Int × Int):=
 (D2 a.Var (-1) (A4 ((d.length:Int) - 1))).bind fun b=>
 if (!b) then
 some (0,6)
 else
 (F4 a d).bind fun c=>
 some (c,0)
def FI (p:A8) (q:Pattern) (m:Morphism) (b:Ne):Option (Ne × Bool):=
 (slices_Clone_int b).bind fun g=>
 (Sx g (A4 (q.Vars - (b.length:Int))) 0).bind fun i=>
 (Jn q.Vars false).bind fun j=>
 (forA (fun (i0:Int) (s0:d0)=>
 (AM s0 i0).bind fun r=>
 some (B1 s0 i0 true)) 0 (b.length:Int) j).bind fun s0=>
 thenR (forR (ρ:=(Ne × Bool)) (fun (i2:Int) (s2:Ne × d0)=>
 (AM q.Slots i2).bind fun a=>
 (AM m.Nodes a.Node).bind fun k=>
 (AM p.h.Values k).bind fun l=>
 (AM l a.Attr).bind fun d=>
 (if (decide (0<=a.Term.Var)) then ((AM s2.2 a.Term.Var).bind fun n=>
 some (!n)) else some false).bind fun o=>
 if o then
 (AM s2.1 a.Term.Var).bind fun s=>
 (AM s2.2 a.Term.Var).bind fun t=>
 (H0 a.Term (B1 s2.1 a.Term.Var (A4 (d - a.Term.Add)))).bind fun c=>
 if ((!decide (c.2=0))||(!decide (c.1=d))) then
 some (.ret ([],false))
 else
 some (.next (B1 s2.1 a.Term.Var (A4 (d - a.Term.Add)),B1 s2.2 a.Term.Var true))
 else
 (H0 a.Term s2.1).bind fun c=>
 if ((!decide (c.2=0))||(!decide (c.1=d))) then
 some (.ret ([],false))
 else
 some (.next (s2.1,s2.2))) 0 (q.Slots.length:Int) (i,s0)) (fun s2=>
 thenR (forR (ρ:=(Ne × Bool)) (fun (i4:Int) (_:Unit)=>
 (AM q.Tests i4).bind fun e=>
 (GZ e s2.1).bind fun f=>
 if (!f) then
 some (.ret ([],false))
 else
 some (.next ())) 0 (q.Tests.length:Int) ()) (fun _=>
 some (s2.1,true)) (fun v4=>some v4)) (fun v2=>some v2)
def CT [Ev] (b:A8) (c:AA) (m:AF):Option (List AF × Int):=
 (H1 (c.Pattern.Graph.Nodes.length:Int) c.Map.Nodes m.Morphism.Nodes).bind fun f=>
 (H1 (c.Pattern.Graph.Edges.length:Int) c.Map.Edges m.Morphism.Edges).bind fun g=>
 (GV b.t c.Pattern.Graph b.h.Graph (Morphism.mk f g) b.injective).bind fun a=>
 if (!decide (a.2=0)) then
 some ([],a.2)
 else
 (forA (fun (i0:Int) (s0:List AF)=>
 (AM a.1 i0).bind fun d=>
 (FI b c.Pattern d m.Vars).bind fun e=>
 if e.2 then
 (B0 s0 [AF.mk d e.1]).bind fun i=>
 some i
 else
 some s0) 0 (a.1.length:Int) []).bind fun s0=>
 some (s0,0)
mutual
def A5 [Ev]:Nat->A8->AA->AF->Option (A1 × Int)
 | 0,_,_,_=>none
 | n+1,b,c,m=>
  if (decide (c.Kind=2)) then
  (AM c.Kids 0).bind fun g=>
  (A5 n b g m).bind fun e=>
  if (decide (e.2=0)) then
  some (A1.mk 0 (AF.mk (Morphism.mk [] []) []) [],10)
  else
  if (decide (e.2=10)) then
  some (A1.mk 0 (AF.mk (Morphism.mk [] []) []) [],0)
  else
  some (A1.mk 0 (AF.mk (Morphism.mk [] []) []) [],e.2)
  else
  if (decide (c.Kind=3)) then
  thenR (forR (ρ:=(A1 × Int)) (fun (i2:Int) (s2:A1 × A1)=>
  (AM c.Kids i2).bind fun h=>
  (A5 n b h m).bind fun f=>
  if (!decide (f.2=0)) then
  some (.ret (A1.mk 0 (AF.mk (Morphism.mk [] []) []) [],f.2))
  else
  (B0 s2.2.Kids [f.1]).bind fun i=>
  some (.next (s2.1,A1.mk s2.2.Choice s2.2.Match i))) 0 (c.Kids.length:Int) (A1.mk 0 (AF.mk (Morphism.mk [] []) []) [],A1.mk 0 (AF.mk (Morphism.mk [] []) []) [])) (fun s2=>
  some (s2.2,0)) (fun v2=>some v2)
  else
  if (decide (c.Kind=4)) then
  thenR (forR (ρ:=(A1 × Int)) (fun (i4:Int) (s4:A1)=>
  (AM c.Kids i4).bind fun j=>
  (A5 n b j m).bind fun a=>
  if (decide (a.2=0)) then
  some (.ret (A1.mk i4 (AF.mk (Morphism.mk [] []) []) [a.1],0))
  else
  if (!decide (a.2=10)) then
  some (.ret (A1.mk 0 (AF.mk (Morphism.mk [] []) []) [],a.2))
  else
  some (.next s4)) 0 (c.Kids.length:Int) (A1.mk 0 (AF.mk (Morphism.mk [] []) []) [])) (fun s4=>
  some (A1.mk 0 (AF.mk (Morphism.mk [] []) []) [],10)) (fun v4=>some v4)
  else
  if (decide (c.Kind=5)) then
  (B4 n b c m).bind fun d=>
  some (d.1,d.2)
  else
  some (A1.mk 0 (AF.mk (Morphism.mk [] []) []) [],0)
def B4 [Ev]:Nat->A8->AA->AF->Option (A1 × Int)
 | 0,_,_,_=>none
 | n+1,e,c,m=>
  (CT e c m).bind fun a=>
  if (!decide (a.2=0)) then
  some (A1.mk 0 (AF.mk (Morphism.mk [] []) []) [],a.2)
  else
  thenR (forR (ρ:=(A1 × Int)) (fun (i0:Int) (s0:A1)=>
  (AM a.1 i0).bind fun d=>
  (AM c.Kids 0).bind fun f=>
  (A5 n e f d).bind fun b=>
  if (decide (b.2=0)) then
  some (.ret (A1.mk 0 d [b.1],0))
  else
  if (!decide (b.2=10)) then
  some (.ret (A1.mk 0 (AF.mk (Morphism.mk [] []) []) [],b.2))
  else
  some (.next s0)) 0 (a.1.length:Int) (A1.mk 0 (AF.mk (Morphism.mk [] []) []) [])) (fun s0=>
  some (A1.mk 0 (AF.mk (Morphism.mk [] []) []) [],10)) (fun v0=>some v0)
end
def E7 [Ev] (a:A8) (c:AA) (m:AF):Option (A1 × Int):=HH fun n=>A5 n a c m
def OC [Ev] (a:A8) (c:AA) (m:AF):Option (A1 × Int):=HH fun n=>B4 n a c m
def E2 [Ev] (t:AC) (p:Pattern) (c:AA) (e:AT) (m:AF) (a:Bool):Option (A1 × Int):=
 (F6 t p c e m a).bind fun b=>
 if (!decide (b=0)) then
 some (A1.mk 0 (AF.mk (Morphism.mk [] []) []) [],b)
 else
 (E7 (A8.mk t e a) c m).bind fun d=>
 some (d.1,d.2)
def C7 [Ev] (t:AC) (p:Pattern) (c:AA) (d:AT) (m:AF) (a:Bool):Option (Bool × Int):=
 (E2 t p c d m a).bind fun b=>
 if (decide (b.2=10)) then
 some (false,0)
 else
 some (decide (b.2=0),b.2)
def D1 (a:Ne) (b:Int):Option Ne:=
 (slices_Clone_int a).bind fun c=>
 (B0 c [b]).bind fun d=>
 some d
def GG (o:AG) (q:Pattern) (m:Morphism) (b:Ne):Option (Ne × Bool):=
 (Jn q.Vars 0).bind fun f=>
 (Jn q.Vars false).bind fun g=>
 (forA (fun (i0:Int) (s0:Ne × d0)=>
 (AM b i0).bind fun i=>
 (AM s0.1 i0).bind fun p=>
 (AM s0.2 i0).bind fun r=>
 some (B1 s0.1 i0 i,B1 s0.2 i0 true)) 0 (b.length:Int) (f,g)).bind fun s0=>
 thenR (forR (ρ:=(Ne × Bool)) (fun (i2:Int) (s2:Ne × d0)=>
 (AM q.Slots i2).bind fun a=>
 (AM m.Nodes a.Node).bind fun j=>
 (AM o.h.Values j).bind fun k=>
 (AM k a.Attr).bind fun c=>
 if (decide (a.Term.Var<0)) then
 if (!decide ((A4 (c - a.Term.Add))=0)) then
 some (.ret ([],false))
 else
 some (.next (s2.1,s2.2))
 else
 (AM s2.2 a.Term.Var).bind fun l=>
 if (!l) then
 (AM s2.1 a.Term.Var).bind fun s=>
 (AM s2.2 a.Term.Var).bind fun t=>
 some (.next (B1 s2.1 a.Term.Var (A4 (c - a.Term.Add)),B1 s2.2 a.Term.Var true))
 else
 (AM s2.1 a.Term.Var).bind fun n=>
 if (!decide (n=(A4 (c - a.Term.Add)))) then
 some (.ret ([],false))
 else
 some (.next (s2.1,s2.2))) 0 (q.Slots.length:Int) (s0.1,s0.2)) (fun s2=>
 thenR (forR (ρ:=(Ne × Bool)) (fun (i5:Int) (_:Unit)=>
 (AM q.Tests i5).bind fun d=>
 (GZ d s2.1).bind fun e=>
 if (!e) then
 some (.ret ([],false))
 else
 some (.next ())) 0 (q.Tests.length:Int) ()) (fun _=>
 some (s2.1,true)) (fun v5=>some v5)) (fun v2=>some v2)
def CM [Ev] (a:AG) (c:AA) (m:AF):Option (List AF):=
 (EL [(-1)] (c.Pattern.Graph.Nodes.length:Int)).bind fun j=>
 (EL [(-1)] (c.Pattern.Graph.Edges.length:Int)).bind fun k=>
 (forA (fun (i0:Int) (s0:Morphism)=>
 (AM c.Map.Nodes i0).bind fun d=>
 (AM m.Morphism.Nodes i0).bind fun l=>
 (AM s0.Nodes d).bind fun o=>
 some (Morphism.mk (B1 s0.Nodes d l) s0.Edges)) 0 (c.Map.Nodes.length:Int) (Morphism.mk j k)).bind fun s0=>
 (forA (fun (i2:Int) (s2:Morphism)=>
 (AM c.Map.Edges i2).bind fun e=>
 (AM m.Morphism.Edges i2).bind fun n=>
 (AM s2.Edges e).bind fun p=>
 some (Morphism.mk s2.Nodes (B1 s2.Edges e n))) 0 (c.Map.Edges.length:Int) s0).bind fun s2=>
 (GV a.t c.Pattern.Graph a.h.Graph s2 a.injective).bind fun f=>
 (forA (fun (i4:Int) (s4:List AF)=>
 (AM f.1 i4).bind fun g=>
 (GG a c.Pattern g m.Vars).bind fun b=>
 if b.2 then
 (B0 s4 [AF.mk g b.1]).bind fun i=>
 some i
 else
 some s4) 0 (f.1.length:Int) []).bind fun s4=>
 some s4
def D8 [Ev] (k:AA) (b:AA->ca):ca:=
 (b k).bind fun a=>
 some (!a)
def E1 [Ev] (a:List AF) (f:AF->ca):dD:=
 thenR (forR (ρ:=Int) (fun (i0:Int) (_:Unit)=>
 (AM a i0).bind fun b=>
 (f b).bind fun c=>
 if c then
 some (.ret i0)
 else
 some (.next ())) 0 (a.length:Int) ()) (fun _=>
 some (-1)) (fun v0=>some v0)
def DU [Ev] (a:List AF) (f:AF->ca):ca:=
 (E1 a f).bind fun b=>
 some (decide (0<=b))
mutual
def BR [Ev]:Nat->AG->AA->AF->ca
 | 0,_,_,_=>none
 | n+1,a,c,m=>
  if (decide (c.Kind=2)) then
  (AM c.Kids 0).bind fun b=>
  (BH n b a m).bind fun d=>
  some (!d)
  else
  if (decide (c.Kind=3)) then
  (B6 c.Kids (fun y0=>D8 y0 (fun y0=>BH n y0 a m))).bind fun e=>
  some (!e)
  else
  if (decide (c.Kind=4)) then
  (B6 c.Kids (fun y0=>BH n y0 a m)).bind fun f=>
  some f
  else
  if (decide (c.Kind=5)) then
  (CM a c m).bind fun g=>
  (DU g (fun y0=>CA n y0 a c)).bind fun h=>
  some h
  else
  some true
def BH [Ev]:Nat->AA->AG->AF->ca
 | 0,_,_,_=>none
 | n+1,k,b,c=>
  (BR n b k c).bind fun a=>
  some a
def CA [Ev]:Nat->AF->AG->AA->ca
 | 0,_,_,_=>none
 | n+1,b,e,d=>
  (AM d.Kids 0).bind fun c=>
  (BR n e c b).bind fun a=>
  some a
end
def _explain_scene__holds [Ev] (a:AG) (c:AA) (m:AF):ca:=HH fun n=>BR n a c m
def O5 [Ev] (k:AA) (a:AG) (b:AF):ca:=HH fun n=>BH n k a b
def O6 [Ev] (a:AF) (c:AG) (b:AA):ca:=HH fun n=>CA n a c b
def FQ (b:Ne) (c:Int) (a:Ne):Option AH:=
 (slices_Clone_int b).bind fun e=>
 (slices_Clone_int a).bind fun d=>
 some (AH.mk e c d)
mutual
def BA [Ev]:Nat->AG->AA->AF->Ne->Bool->Option (List AH)
 | 0,_,_,_,_,_=>none
 | n+1,d,c,m,a,b=>
  if (decide (c.Kind=2)) then
  (AM c.Kids 0).bind fun e=>
  (D1 a 0).bind fun f=>
  (BA n d e m f (!b)).bind fun g=>
  some g
  else
  (if (decide (c.Kind=3)) then
  some (decide (c.Kind=3))
  else
  some (decide (c.Kind=4))).bind fun w1=>
  if w1 then
  (CB n d c m a b).bind fun h=>
  some h
  else
  if (decide (c.Kind=5)) then
  (CI n d c m a b).bind fun i=>
  some i
  else
  (FQ a 1 []).bind fun j=>
  some [j]
def CB [Ev]:Nat->AG->AA->AF->Ne->Bool->Option (List AH)
 | 0,_,_,_,_,_=>none
 | n+1,e,c,m,b,a=>
  thenR (forR (ρ:=(List AH)) (fun (i0:Int) (s0:List AH)=>
  (AM c.Kids i0).bind fun d=>
  if ((decide (c.Kind=3))==a) then
  (D1 b i0).bind fun f=>
  (BA n e d m f a).bind fun g=>
  (B0 s0 g).bind fun h=>
  some (.next h)
  else
  (_explain_scene__holds e d m).bind fun i=>
  if (i==a) then
  (D1 b i0).bind fun j=>
  (BA n e d m j a).bind fun k=>
  some (.ret k)
  else
  some (.next s0)) 0 (c.Kids.length:Int) []) (fun s0=>
  some s0) (fun v0=>some v0)
def CI [Ev]:Nat->AG->AA->AF->Ne->Bool->Option (List AH)
 | 0,_,_,_,_,_=>none
 | n+1,e,c,m,a,d=>
  (CM e c m).bind fun f=>
  if ((!d)&&(decide ((f.length:Int)=0))) then
  (FQ a 3 m.Morphism.Nodes).bind fun h=>
  some [h]
  else
  thenR (forR (ρ:=(List AH)) (fun (i0:Int) (s0:List AH)=>
  (AM f i0).bind fun b=>
  if ((!d)&&(decide (i0<5))) then
  (FQ a 4 b.Morphism.Nodes).bind fun i=>
  (B0 s0 [i]).bind fun j=>
  (AM c.Kids 0).bind fun k=>
  (D1 a 0).bind fun l=>
  (BA n e k b l false).bind fun o=>
  (B0 j o).bind fun p=>
  some (.next p)
  else
  (if d then ((AM c.Kids 0).bind fun q=>
  (_explain_scene__holds e q b).bind fun r=>
  some (r)) else some false).bind fun s=>
  if s then
  (FQ a 2 b.Morphism.Nodes).bind fun g=>
  (AM c.Kids 0).bind fun t=>
  if (!decide (t.Kind=1)) then
  (AM c.Kids 0).bind fun u=>
  (D1 a 0).bind fun v=>
  (BA n e u b v true).bind fun w=>
  (B0 [g] w).bind fun x=>
  some (.ret x)
  else
  some (.ret [g])
  else
  some (.next s0)) 0 (f.length:Int) []) (fun s0=>
  some s0) (fun v0=>some v0)
end
def Hy [Ev] (d:AG) (c:AA) (m:AF) (a:Ne) (b:Bool):Option (List AH):=HH fun n=>BA n d c m a b
def O7 [Ev] (d:AG) (c:AA) (m:AF) (a:Ne) (b:Bool):Option (List AH):=HH fun n=>CB n d c m a b
def Pe [Ev] (d:AG) (c:AA) (m:AF) (a:Ne) (b:Bool):Option (List AH):=HH fun n=>CI n d c m a b
def E8 [Ev] (t:AC) (p:Pattern) (c:AA) (d:AT) (m:AF) (a:Bool):Option (List AH × Int):=
 (C7 t p c d m a).bind fun b=>
 if (!decide (b.2=0)) then
 some ([],b.2)
 else
 if b.1 then
 some ([],10)
 else
 (Hy (AG.mk t d a) c m [] false).bind fun e=>
 some (e,0)
def G6 (l:List AH) (b:Ne) (c:Int) (a:Ne):ca:=
 (if (decide (0<(l.length:Int))) then ((AM l 0).bind fun d=>
 some (decide (d.Kind=c))) else some false).bind fun e=>
 (if e then ((AM l 0).bind fun f=>
 (slices_Equal_int f.Path b).bind fun g=>
 some (g)) else some false).bind fun h=>
 (if h then ((AM l 0).bind fun i=>
 (slices_Equal_int i.Nodes a).bind fun j=>
 some (j)) else some false).bind fun k=>
 some k
def IU (s:Ne) (n:Int):Option Ne:=if s=[]∧0<=n∧n<=BM then some [] else none
def Ie (a:List Ne):Option Ne:=
 (forA (fun (i0:Int) (s0:Int)=>
 (AM a i0).bind fun b=>
 if (decide ((A4 (s0+(b.length:Int)))<0)) then
 none
 else
 some (A4 (s0+(b.length:Int)))) 0 (a.length:Int) 0).bind fun s0=>
 (IU [] s0).bind fun c=>
 (forA (fun (i2:Int) (s2:Ne)=>
 (AM a i2).bind fun d=>
 (B0 s2 d).bind fun e=>
 some e) 0 (a.length:Int) c).bind fun s2=>
 some s2
def GQ (a:Ne) (b:Ne):Option Ne:=
 (Ie [a,b]).bind fun e=>
 (slices_Sort_int e).bind fun c=>
 (slices_Compact_int c).bind fun d=>
 some d
def EM [Ev] (a:Ne) (d:Int->Option Ne):Option Ne:=
 (forA (fun (i0:Int) (s0:Ne)=>
 (AM a i0).bind fun b=>
 (d b).bind fun c=>
 (forA (fun (i2:Int) (s2:Ne)=>
 (AM c i2).bind fun e=>
 (B0 s2 [A4 (b+e)]).bind fun f=>
 some f) 0 (c.length:Int) s0).bind fun s2=>
 some s2) 0 (a.length:Int) []).bind fun s0=>
 (GQ s0 []).bind fun g=>
 some g
mutual
def AZ [Ev]:Nat->AG->(List AH)->AA->AF->Ne->Bool->Option Ne
 | 0,_,_,_,_,_,_=>none
 | n+1,d,l,c,m,b,a=>
  if (decide (c.Kind=2)) then
  (AM c.Kids 0).bind fun f=>
  (D1 b 0).bind fun g=>
  (AZ n d l f m g (!a)).bind fun h=>
  some h
  else
  if (decide (c.Kind=5)) then
  (BL n d l c m b a).bind fun i=>
  some i
  else
  if (decide (c.Kind=1)) then
  (G6 l b 1 []).bind fun j=>
  if j then
  some [1]
  else
  some []
  else
  if ((decide (c.Kind=3))==a) then
  (forA (fun (i1:Int) (s1:Ne)=>
  (AM c.Kids i1).bind fun k=>
  (EM s1 (fun y0=>BG n y0 d l k m b i1 a)).bind fun o=>
  some o) 0 (c.Kids.length:Int) [0]).bind fun s1=>
  some s1
  else
  (forA (fun (i3:Int) (s3:Ne)=>
  (AM c.Kids i3).bind fun e=>
  (_explain_scene__holds d e m).bind fun p=>
  if (p==a) then
  (D1 b i3).bind fun q=>
  (AZ n d l e m q a).bind fun r=>
  (GQ s3 r).bind fun s=>
  some s
  else
  some s3) 0 (c.Kids.length:Int) []).bind fun s3=>
  some s3
def BL [Ev]:Nat->AG->(List AH)->AA->AF->Ne->Bool->Option Ne
 | 0,_,_,_,_,_,_=>none
 | n+1,e,l,c,m,a,f=>
  (CM e c m).bind fun b=>
  (AM c.Kids 0).bind fun d=>
  if ((!f)&&(decide ((b.length:Int)=0))) then
  (G6 l a 3 m.Morphism.Nodes).bind fun i=>
  if i then
  some [1]
  else
  some []
  else
  if (!f) then
  (slc b 0 (min (b.length:Int) 5)).bind fun h=>
  (forA (fun (i0:Int) (s0:Ne)=>
  (AM h i0).bind fun j=>
  (EM s0 (fun y0=>BC n y0 l a j e d)).bind fun k=>
  some k) 0 (h.length:Int) [0]).bind fun s0=>
  some s0
  else
  (forA (fun (i2:Int) (s2:Ne)=>
  (AM b i2).bind fun g=>
  (G6 l a 2 g.Morphism.Nodes).bind fun o=>
  (if (!o) then some true else ((_explain_scene__holds e d g).bind fun p=>
  some (!p))).bind fun q=>
  if q then
  some s2
  else
  if (decide (d.Kind=1)) then
  (GQ s2 [1]).bind fun r=>
  some r
  else
  (EM [1] (fun y0=>BD n y0 e l d g a)).bind fun s=>
  (GQ s2 s).bind fun t=>
  some t) 0 (b.length:Int) []).bind fun s2=>
  some s2
def BG [Ev]:Nat->Int->AG->(List AH)->AA->AF->Ne->Int->Bool->Option Ne
 | 0,_,_,_,_,_,_,_,_=>none
 | n+1,d,j,e,k,g,i,f,h=>
  (slc e d e.length).bind fun a=>
  (D1 i f).bind fun b=>
  (AZ n j a k g b h).bind fun c=>
  some c
def BC [Ev]:Nat->Int->(List AH)->Ne->AF->AG->AA->Option Ne
 | 0,_,_,_,_,_,_=>none
 | n+1,a,e,f,g,h,i=>
  (slc e a e.length).bind fun b=>
  (G6 b f 4 g.Morphism.Nodes).bind fun c=>
  if (!c) then
  some []
  else
  (EM [1] (fun y0=>A6 n y0 h e a i g f)).bind fun d=>
  some d
def A6 [Ev]:Nat->Int->AG->(List AH)->Int->AA->AF->Ne->Option Ne
 | 0,_,_,_,_,_,_,_=>none
 | n+1,k,g,d,i,e,h,f=>
  (slc d (A4 (i+k)) d.length).bind fun a=>
  (D1 f 0).bind fun b=>
  (AZ n g a e h b false).bind fun c=>
  some c
def BD [Ev]:Nat->Int->AG->(List AH)->AA->AF->Ne->Option Ne
 | 0,_,_,_,_,_,_=>none
 | n+1,d,h,e,i,f,g=>
  (slc e d e.length).bind fun a=>
  (D1 g 0).bind fun b=>
  (AZ n h a i f b true).bind fun c=>
  some c
end
def FX [Ev] (d:AG) (l:List AH) (c:AA) (m:AF) (a:Ne) (b:Bool):Option Ne:=HH fun n=>AZ n d l c m a b
def Om [Ev] (d:AG) (l:List AH) (c:AA) (m:AF) (a:Ne) (b:Bool):Option Ne:=HH fun n=>BL n d l c m a b
def OQ [Ev] (a:Int) (g:AG) (c:List AH) (h:AA) (d:AF) (f:Ne) (b:Int) (e:Bool):Option Ne:=HH fun n=>BG n a g c h d f b e
def OD [Ev] (a:Int) (e:List AH) (b:Ne) (f:AF) (c:AG) (d:AA):Option Ne:=HH fun n=>BC n a e b f c d
def NS [Ev] (k:Int) (e:AG) (b:List AH) (f:Int) (c:AA) (d:AF) (a:Ne):Option Ne:=HH fun n=>A6 n k e b f c d a
def OE [Ev] (a:Int) (e:AG) (b:List AH) (f:AA) (c:AF) (d:Ne):Option Ne:=HH fun n=>BD n a e b f c d
def GO [Ev] (t:AC) (p:Pattern) (c:AA) (d:AT) (m:AF) (a:Bool) (l:List AH):ca:=
 (C7 t p c d m a).bind fun b=>
 (if ((decide (b.2=0))&&(!b.1)) then ((FX (AG.mk t d a) l c m [] false).bind fun e=>
 (slices_Contains_int e (l.length:Int)).bind fun f=>
 some (f)) else some false).bind fun g=>
 some g
def GP [Ev]:Nat->Ne->Int->Option (List Ne)
 | 0,_,_=>none
 | n+1,l,b=>
  if (decide (b=0)) then
  some [[]]
  else
  (forA (fun (i0:Int) (s0:List Ne)=>
  (slc l (A4 (i0+1)) l.length).bind fun c=>
  (GP n c (A4 (b - 1))).bind fun a=>
  (forA (fun (i2:Int) (s2:List Ne)=>
  (AM a i2).bind fun d=>
  (AM l i0).bind fun e=>
  (B0 [e] d).bind fun f=>
  (B0 s2 [f]).bind fun g=>
  some g) 0 (a.length:Int) s0).bind fun s2=>
  some s2) 0 (l.length:Int) []).bind fun s0=>
  some s0
def Mu [Ev] (l:Ne) (a:Int):Option (List Ne):=HH fun n=>GP n l a
def Mv (a:AT) (m:AF) (j:Ne):Option (AT × AF):=
 (Jn (a.Graph.Edges.length:Int) 0).bind fun b=>
 (forA (fun (i0:Int) (s0:AT × Ne)=>
 (AM a.Graph.Edges i0).bind fun c=>
 (slices_Contains_int j i0).bind fun d=>
 if (!d) then
 (AM s0.2 i0).bind fun i=>
 (B0 s0.1.Graph.Edges [c]).bind fun e=>
 some (AT.mk (Graph.mk s0.1.Graph.Nodes e) s0.1.Values,B1 s0.2 i0 (s0.1.Graph.Edges.length:Int))
 else
 some (s0.1,s0.2)) 0 (a.Graph.Edges.length:Int) (AT.mk (Graph.mk a.Graph.Nodes []) a.Values,b)).bind fun s0=>
 (forA (fun (i2:Int) (s2:AF)=>
 (AM m.Morphism.Edges i2).bind fun f=>
 (AM s0.2 f).bind fun g=>
 (B0 s2.Morphism.Edges [g]).bind fun h=>
 some (AF.mk (Morphism.mk s2.Morphism.Nodes h) s2.Vars)) 0 (m.Morphism.Edges.length:Int) (AF.mk (Morphism.mk m.Morphism.Nodes []) m.Vars)).bind fun s2=>
 some (s0.1,s2)
def Is [Ev] (t:AC) (p:Pattern) (c:AA) (a:AT) (m:AF):Option (Ne × Int):=
 (C7 t p c a m true).bind fun b=>
 if (!decide (b.2=0)) then
 some ([],b.2)
 else
 (if (!decide (c.Kind=2)) then some true else ((AM c.Kids 0).bind fun h=>
 some (!decide (h.Kind=5)))).bind fun i=>
 if i then
 some ([],8)
 else
 if (decide (12<(a.Graph.Edges.length:Int))) then
 some ([],3)
 else
 (forA (fun (i0:Int) (s0:Ne)=>
 (slices_Contains_int m.Morphism.Edges i0).bind fun j=>
 if (!j) then
 (B0 s0 [i0]).bind fun k=>
 some k
 else
 some s0) 0 (a.Graph.Edges.length:Int) []).bind fun s0=>
 thenR (forR (ρ:=(Ne × Int)) (fun (i2:Int) (_:Unit)=>
 (Mu s0 i2).bind fun d=>
 thenR (forR (ρ:=(Ne × Int)) (fun (i4:Int) (_:Unit)=>
 (AM d i4).bind fun e=>
 (Mv a m e).bind fun f=>
 (C7 t p c f.1 f.2 true).bind fun g=>
 if ((decide (g.2=0))&&g.1) then
 some (.ret (e,0))
 else
 some (.next ())) 0 (d.length:Int) ()) (fun _=>
 some (.next ())) (fun v4=>some (.ret v4))) 0 4 ()) (fun _=>
 some ([],10)) (fun v2=>some v2)
def OL :Option AC:=
 some (AC.mk [CX.mk (⟨#[65,99,99,111,117,110,116]⟩:ByteArray) (-1) true [Attr.mk (⟨#[98,97,108,97,110,99,101]⟩:ByteArray) (-1000) 1000 []],CX.mk (⟨#[67,97,115,104]⟩:ByteArray) 0 false [],CX.mk (⟨#[76,111,97,110]⟩:ByteArray) 0 false [Attr.mk (⟨#[115,116,97,116,101]⟩:ByteArray) 0 1 [(⟨#[111,112,101,110]⟩:ByteArray),(⟨#[99,108,111,115,101,100]⟩:ByteArray)]],CX.mk (⟨#[80,101,114,115,111,110]⟩:ByteArray) (-1) false []] [DF.mk (⟨#[111,119,110,115]⟩:ByteArray) 3 0 0 (-1) 1 1,DF.mk (⟨#[112,97,121,115]⟩:ByteArray) 1 1 0 (-1) 0 (-1)])
def OJ :Option (H8 × KO):=
 (some (AA.mk 2 [AA.mk 5 [AA.mk 1 [] (Morphism.mk [] []) (Pattern.mk (Graph.mk [] []) [] 0 [])] (Morphism.mk [0,1] [0]) (Pattern.mk (Graph.mk [3,0,0] [DY.mk 0 0 1,DY.mk 0 0 2]) [] 0 [])] (Morphism.mk [] []) (Pattern.mk (Graph.mk [] []) [] 0 []))).bind fun a=>
 some (H8.mk (Pattern.mk (Graph.mk [3,0] [DY.mk 0 0 1]) [] 0 []) a,KO.mk (AT.mk (Graph.mk [3,1,1] [DY.mk 0 0 1,DY.mk 0 0 2]) [[],[10],[5]]) (AF.mk (Morphism.mk [0,1] [0]) []) true)
def strconv_Itoa (i:Int):Option ByteArray:=if 0<=i∧i<100 then some (ZA i.toNat) else none
def strings_Join (l:List ByteArray) (s:ByteArray):Option ByteArray:=if l.length<=BM∧(JQ l s).size<=BM then some (JQ l s) else none
def J1 [Ev] (t:AC) (g:AT) (l:List AH):Option (List ByteArray × Int):=
 (H7 t g).bind fun o=>
 if (!decide (o.2=0)) then
 some ([],o.2)
 else
 thenR (forR (ρ:=(List ByteArray × Int)) (fun (i0:Int) (s0:List ByteArray)=>
 (AM l i0).bind fun a=>
 if ((decide (a.Kind<1))||(decide (4<a.Kind))) then
 some (.ret ([],6))
 else
 (forA (fun (i2:Int) (s2:List ByteArray)=>
 (AM a.Path i2).bind fun p=>
 (strconv_Itoa p).bind fun q=>
 (B0 s2 [q]).bind fun r=>
 some r) 0 (a.Path.length:Int) []).bind fun s2=>
 if (decide (0<(s2.length:Int))) then
 (strings_Join s2 (⟨#[46]⟩:ByteArray)).bind fun s=>
 (AM [(⟨#[116,114,117,101]⟩:ByteArray),(⟨#[102,111,117,110,100]⟩:ByteArray),(⟨#[109,105,115,115,105,110,103]⟩:ByteArray),(⟨#[102,97,105,108,115]⟩:ByteArray)] (A4 (a.Kind - 1))).bind fun h=>
 thenR (forR (ρ:=(List ByteArray × Int)) (fun (i4:Int) (s4:List ByteArray)=>
 (AM a.Nodes i4).bind fun b=>
 if ((decide (b<0))||(decide ((g.Graph.Nodes.length:Int)<=b))) then
 some (.ret ([],6))
 else
 (strconv_Itoa b).bind fun i=>
 (NB (⟨#[110]⟩:ByteArray) i).bind fun j=>
 (NB j (⟨#[58]⟩:ByteArray)).bind fun k=>
 (AM g.Graph.Nodes b).bind fun m=>
 (AM t.Nodes m).bind fun n=>
 (NB k n.Name).bind fun c=>
 (B0 s4 [c]).bind fun d=>
 some (.next d)) 0 (a.Nodes.length:Int) [s,h]) (fun s4=>
 (strings_Join s4 (⟨#[32]⟩:ByteArray)).bind fun e=>
 (B0 s0 [e]).bind fun f=>
 some (.next f)) (fun v4=>some (.ret v4))
 else
 (AM [(⟨#[116,114,117,101]⟩:ByteArray),(⟨#[102,111,117,110,100]⟩:ByteArray),(⟨#[109,105,115,115,105,110,103]⟩:ByteArray),(⟨#[102,97,105,108,115]⟩:ByteArray)] (A4 (a.Kind - 1))).bind fun h=>
 thenR (forR (ρ:=(List ByteArray × Int)) (fun (i4:Int) (s4:List ByteArray)=>
 (AM a.Nodes i4).bind fun b=>
 if ((decide (b<0))||(decide ((g.Graph.Nodes.length:Int)<=b))) then
 some (.ret ([],6))
 else
 (strconv_Itoa b).bind fun i=>
 (NB (⟨#[110]⟩:ByteArray) i).bind fun j=>
 (NB j (⟨#[58]⟩:ByteArray)).bind fun k=>
 (AM g.Graph.Nodes b).bind fun m=>
 (AM t.Nodes m).bind fun n=>
 (NB k n.Name).bind fun c=>
 (B0 s4 [c]).bind fun d=>
 some (.next d)) 0 (a.Nodes.length:Int) [(⟨#[45]⟩:ByteArray),h]) (fun s4=>
 (strings_Join s4 (⟨#[32]⟩:ByteArray)).bind fun e=>
 (B0 s0 [e]).bind fun f=>
 some (.next f)) (fun v4=>some (.ret v4))) 0 (l.length:Int) []) (fun s0=>
 some (s0,0)) (fun v0=>some v0)
def slices_Equal_string (a:List ByteArray) (b:List ByteArray):ca:=
 if (!decide ((a.length:Int)=(b.length:Int))) then
 some false
 else
 thenR (forR (ρ:=Bool) (fun (i0:Int) (_:Unit)=>
 (AM a i0).bind fun c=>
 (AM b i0).bind fun d=>
 if (!(c==d)) then
 some (.ret false)
 else
 some (.next ())) 0 (a.length:Int) ()) (fun _=>
 some true) (fun v0=>some v0)
def GJ [Ev] :ca:=
 (OL).bind fun b=>
 (OJ).bind fun a=>
 (E8 b a.1.P a.1.C a.2.H a.2.M true).bind fun c=>
 (J1 b a.2.H c.1).bind fun d=>
 (Is b a.1.P a.1.C a.2.H a.2.M).bind fun e=>
 (if (((decide (c.2=0))&&(decide (d.2=0)))&&(decide (e.2=0))) then ((slices_Equal_string d.1 [(⟨#[48,32,102,111,117,110,100,32,110,48,58,80,101,114,115,111,110,32,110,49,58,67,97,115,104,32,110,50,58,67,97,115,104]⟩:ByteArray)]).bind fun f=>
 some (f)) else some false).bind fun g=>
 (if g then ((slices_Equal_int e.1 [1]).bind fun h=>
 some (h)) else some false).bind fun i=>
 (if i then ((GO b a.1.P a.1.C a.2.H a.2.M true c.1).bind fun j=>
 some (j)) else some false).bind fun k=>
 some k
def Mb [Ev] (t:AC):ca:=
 if ((decide (20<(t.Nodes.length:Int)))||(decide (30<(t.Edges.length:Int)))) then
 some false
 else
 thenR (forR (ρ:=Bool) (fun (i0:Int) (s0:Int)=>
 (AM t.Nodes i0).bind fun b=>
 (if (decide (30<(A4 (s0+(b.Attrs.length:Int))))) then some true else ((AM t.Nodes i0).bind fun d=>
 some (decide (40<(d.Name.size:Int))))).bind fun e=>
 if e then
 some (.ret false)
 else
 thenR (I7 (ρ:=Bool) (fun (s2:Int)=>
 (AM t.Nodes i0).bind fun f=>
 if (decide (s2<(f.Attrs.length:Int))) then
 (AM t.Nodes i0).bind fun g=>
 (AM g.Attrs s2).bind fun a=>
 if ((decide (40<(a.Name.size:Int)))||(decide (25<(a.Names.length:Int)))) then
 some (.ret false)
 else
 thenR (I7 (ρ:=Bool) (fun (s4:Int)=>
 if (decide (s4<(a.Names.length:Int))) then
 (AM a.Names s4).bind fun h=>
 if (decide (40<(h.size:Int))) then
 some (.ret false)
 else
 some (.next (A4 (s4+1)))
 else
 some (.brk s4)) 0) (fun s4=>
 some (.next (A4 (s2+1)))) (fun v4=>some (.ret v4))
 else
 some (.brk s2)) 0) (fun s2=>
 some (.next (A4 (s0+(b.Attrs.length:Int))))) (fun v2=>some (.ret v2))) 0 (t.Nodes.length:Int) 0) (fun s0=>
 thenR (forR (ρ:=Bool) (fun (i6:Int) (_:Unit)=>
 (AM t.Edges i6).bind fun c=>
 if (decide (40<(c.Name.size:Int))) then
 some (.ret false)
 else
 some (.next ())) 0 (t.Edges.length:Int) ()) (fun _=>
 some true) (fun v6=>some v6)) (fun v0=>some v0)
def KI (g:Graph):ca:=
 some ((decide ((g.Nodes.length:Int)<=45))&&(decide ((g.Edges.length:Int)<=90)))
def Md (p:Pattern):ca:=
 (KI p.Graph).bind fun a=>
 some ((a&&(decide ((p.Slots.length:Int)<=15)))&&(decide ((p.Tests.length:Int)<=15)))
def PY (m:Morphism) (n:Int):ca:=
 some (decide ((A4 ((m.Nodes.length:Int)+(m.Edges.length:Int)))<=n))
def GK [Ev]:Nat->AA->Int->dD
 | 0,_,_=>none
 | n+1,c,a=>
  (Md c.Pattern).bind fun b=>
  (if (!b) then some true else ((PY c.Map 140).bind fun d=>
  some (!d))).bind fun e=>
  if e then
  some (-1)
  else
  thenR (I7 (ρ:=Int) (fun (s0:Int × Int)=>
  if ((decide (s0.2<(c.Kids.length:Int)))&&(decide (0<=s0.1))) then
  (AM c.Kids s0.2).bind fun f=>
  (GK n f s0.1).bind fun g=>
  some (.next (g,A4 (s0.2+1)))
  else
  some (.brk (s0.1,s0.2))) (A4 (a - 1),0)) (fun s0=>
  some s0.1) (fun v0=>some v0)
def Qm [Ev] (c:AA) (a:Int):dD:=HH fun n=>GK n c a
def N8 [Ev] (c:AA):ca:=
 (Qm c 40).bind fun a=>
 some (decide (0<=a))
def Mc (a:AT):ca:=
 (KI a.Graph).bind fun c=>
 if ((!c)||(decide (45<(a.Values.length:Int)))) then
 some false
 else
 thenR (forR (ρ:=Bool) (fun (i0:Int) (_:Unit)=>
 (AM a.Values i0).bind fun b=>
 if (decide (12<(b.length:Int))) then
 some (.ret false)
 else
 some (.next ())) 0 (a.Values.length:Int) ()) (fun _=>
 some true) (fun v0=>some v0)
def Lb (n:Int):ca:=
 some ((decide (0<=n))&&(decide (n<=99)))
def Nu (e:DY) (a:Int):ca:=
 (Lb e.Type').bind fun b=>
 some ((((b&&(decide (0<=e.From)))&&(decide (e.From<a)))&&(decide (0<=e.To)))&&(decide (e.To<a)))
def HK (g:Graph):dD:=
 if ((decide (40<(g.Nodes.length:Int)))||(decide (80<(g.Edges.length:Int)))) then
 some 3
 else
 thenR (forR (ρ:=Int) (fun (i0:Int) (_:Unit)=>
 (AM g.Nodes i0).bind fun a=>
 (Lb a).bind fun b=>
 if (!b) then
 some (.ret 6)
 else
 some (.next ())) 0 (g.Nodes.length:Int) ()) (fun _=>
 thenR (forR (ρ:=Int) (fun (i2:Int) (_:Unit)=>
 (AM g.Edges i2).bind fun c=>
 (Nu c (g.Nodes.length:Int)).bind fun d=>
 if (!d) then
 some (.ret 6)
 else
 some (.next ())) 0 (g.Edges.length:Int) ()) (fun _=>
 some 0) (fun v2=>some v2)) (fun v0=>some v0)
def OY (t:GN):Option ByteArray:=
 if (decide (t.Kind=3)) then
 (NB (⟨#[34]⟩:ByteArray) t.Text).bind fun a=>
 (NB a (⟨#[34]⟩:ByteArray)).bind fun b=>
 some b
 else
 some t.Text
def LH (c:Int):ca:=
 some (((decide (97<=c))&&(decide (c<=122)))||((decide (65<=c))&&(decide (c<=90))))
def Jg (c:Int):ca:=
 some ((decide (48<=c))&&(decide (c<=57)))
def N5 [Ev] (a:ByteArray) (c:Int) (b:Bool):dD:=
 thenR (I7 (ρ:=Int) (fun (s0:Int)=>
 (if (decide ((A4 (c+s0))<(a.size:Int))) then ((sidx a (A4 (c+s0))).bind fun d=>
 (Jg d).bind fun e=>
 (if e then some true else ((if (!b) then ((sidx a (A4 (c+s0))).bind fun f=>
 (LH f).bind fun g=>
 (if g then some true else ((sidx a (A4 (c+s0))).bind fun h=>
 some (decide (h=95)))).bind fun i=>
 some (i)) else some false).bind fun j=>
 some (j))).bind fun k=>
 some (k)) else some false).bind fun l=>
 if l then
 some (.next (A4 (s0+1)))
 else
 some (.brk s0)) 0) (fun s0=>
 some s0) (fun v0=>some v0)
def LI [Ev] (b:ByteArray) (c:Int):dD:=
 thenR (I7 (ρ:=Int) (fun (s0:Int)=>
 if (decide ((A4 (c+s0))<(b.size:Int))) then
 (sidx b (A4 (c+s0))).bind fun a=>
 if (decide (a=34)) then
 some (.ret (A4 (s0+1)))
 else
 if ((decide (a<32))||(decide (126<a))) then
 some (.ret 0)
 else
 some (.next (A4 (s0+1)))
 else
 some (.brk s0)) 1) (fun s0=>
 some 0) (fun v0=>some v0)
def Ns :Option (List ByteArray):=
 some [(⟨#[45,62]⟩:ByteArray),(⟨#[60,61]⟩:ByteArray),(⟨#[62,61]⟩:ByteArray),(⟨#[61,61]⟩:ByteArray),(⟨#[33,61]⟩:ByteArray),(⟨#[123]⟩:ByteArray),(⟨#[125]⟩:ByteArray),(⟨#[40]⟩:ByteArray),(⟨#[41]⟩:ByteArray),(⟨#[91]⟩:ByteArray),(⟨#[93]⟩:ByteArray),(⟨#[44]⟩:ByteArray),(⟨#[59]⟩:ByteArray),(⟨#[58]⟩:ByteArray),(⟨#[61]⟩:ByteArray),(⟨#[43]⟩:ByteArray),(⟨#[45]⟩:ByteArray),(⟨#[42]⟩:ByteArray),(⟨#[60]⟩:ByteArray),(⟨#[62]⟩:ByteArray),(⟨#[33]⟩:ByteArray),(⟨#[38]⟩:ByteArray),(⟨#[124]⟩:ByteArray),(⟨#[46]⟩:ByteArray),(⟨#[63]⟩:ByteArray)]
def N4 [Ev] (a:ByteArray) (d:Int):Option (GN × Int × Int):=
 (sidx a d).bind fun c=>
 (LH c).bind fun i=>
 (if i then some true else ((Jg c).bind fun j=>
 some (j))).bind fun k=>
 if k then
 (Jg c).bind fun l=>
 (N5 a d l).bind fun f=>
 (Jg c).bind fun m=>
 (if m then
 some (2,9)
 else
 some (1,20)).bind fun w1=>
 if (decide (w1.2<f)) then
 some (GN.mk 0 (⟨#[]⟩:ByteArray) 0,0,3)
 else
 (sslc a d (A4 (d+f))).bind fun n=>
 some (GN.mk w1.1 n 0,f,0)
 else
 if (decide (c=34)) then
 (LI a d).bind fun e=>
 if (decide (e=0)) then
 some (GN.mk 0 (⟨#[]⟩:ByteArray) 0,0,2)
 else
 if (decide (60<(A4 (e - 2)))) then
 some (GN.mk 0 (⟨#[]⟩:ByteArray) 0,0,3)
 else
 (sslc a (A4 (d+1)) (A4 ((A4 (d+e)) - 1))).bind fun o=>
 some (GN.mk 3 o 0,e,0)
 else
 (Ns).bind fun b=>
 thenR (forR (ρ:=(GN × Int × Int)) (fun (i0:Int) (s0:GN)=>
 (AM b i0).bind fun p=>
 (if (decide ((A4 (d+(p.size:Int)))<=(a.size:Int))) then ((AM b i0).bind fun q=>
 (sslc a d (A4 (d+(q.size:Int)))).bind fun r=>
 (AM b i0).bind fun s=>
 some (r==s)) else some false).bind fun t=>
 if t then
 (AM b i0).bind fun g=>
 (AM b i0).bind fun h=>
 some (.ret (GN.mk 4 g 0,(h.size:Int),0))
 else
 some (.next s0)) 0 (b.length:Int) (GN.mk 0 (⟨#[]⟩:ByteArray) 0)) (fun s0=>
 some (GN.mk 0 (⟨#[]⟩:ByteArray) 0,0,2)) (fun v0=>some v0)
def Nr [Ev] (t:GN):ca:=
 (OY t).bind fun b=>
 if (b==(⟨#[]⟩:ByteArray)) then
 some false
 else
 (N4 b 0).bind fun a=>
 some (((decide (a.2.2=0))&&(decide (a.2.1=(b.size:Int))))&&(decide (a.1.Kind=t.Kind)))
def IH [Ev] (a:ByteArray):ca:=
 (Nr (GN.mk 1 a 0)).bind fun b=>
 some b
def E6 (n:Int) (b:Int) (a:Int):ca:=
 some ((decide (b<=n))&&(decide (n<=a)))
def IJ [Ev]:Nat->AC->Int->Option (List Attr)
 | 0,_,_=>none
 | n+1,t,a=>
  if (decide (a<0)) then
  some []
  else
  (AM t.Nodes a).bind fun b=>
  (IJ n t b.Parent).bind fun c=>
  (B0 [] c).bind fun d=>
  (AM t.Nodes a).bind fun e=>
  (B0 d e.Attrs).bind fun f=>
  some f
def Nt [Ev] (t:AC) (a:Int):Option (List Attr):=HH fun n=>IJ n t a
def L0 [Ev] (l:List ByteArray):dD:=
 if (decide (20<(l.length:Int))) then
 some 3
 else
 thenR (forR (ρ:=Int) (fun (i0:Int) (_:Unit)=>
 (AM l i0).bind fun a=>
 (IH a).bind fun b=>
 if (!b) then
 some (.ret 2)
 else
 thenR (forR (ρ:=Int) (fun (i2:Int) (_:Unit)=>
 (AM l i2).bind fun c=>
 (AM l i0).bind fun d=>
 if (c==d) then
 some (.ret 5)
 else
 some (.next ())) 0 i0 ()) (fun _=>
 some (.next ())) (fun v2=>some (.ret v2))) 0 (l.length:Int) ()) (fun _=>
 some 0) (fun v0=>some v0)
def JT [Ev] (a:Attr):dD:=
 if (decide ((a.Names.length:Int)=0)) then
 (E6 a.Low (-1000000) 1000000).bind fun c=>
 (if (!c) then some true else ((E6 a.High a.Low 1000000).bind fun d=>
 some (!d))).bind fun e=>
 if e then
 some 6
 else
 some 0
 else
 (L0 a.Names).bind fun b=>
 if (!decide (b=0)) then
 some b
 else
 if ((!decide (a.Low=0))||(!decide (a.High=(A4 ((a.Names.length:Int) - 1))))) then
 some 6
 else
 some 0
def M6 [Ev] (t:AC) (c:Int):dD:=
 (AM t.Nodes c).bind fun b=>
 (IH b.Name).bind fun e=>
 if (!e) then
 some 2
 else
 thenR (forR (ρ:=Int) (fun (i0:Int) (_:Unit)=>
 (AM t.Nodes i0).bind fun f=>
 if (f.Name==b.Name) then
 some (.ret 5)
 else
 some (.next ())) 0 c ()) (fun _=>
 (E6 b.Parent (-1) (A4 (c - 1))).bind fun g=>
 if (!g) then
 some 6
 else
 (Nt t c).bind fun a=>
 if ((decide (4<(b.Attrs.length:Int)))||(decide (8<(a.length:Int)))) then
 some 3
 else
 thenR (forR (ρ:=Int) (fun (i2:Int) (_:Unit)=>
 (AM a i2).bind fun h=>
 (IH h.Name).bind fun i=>
 if (!i) then
 some (.ret 2)
 else
 thenR (forR (ρ:=Int) (fun (i4:Int) (_:Unit)=>
 (AM a i4).bind fun j=>
 (AM a i2).bind fun k=>
 if (j.Name==k.Name) then
 some (.ret 5)
 else
 some (.next ())) 0 i2 ()) (fun _=>
 (AM a i2).bind fun l=>
 (JT l).bind fun d=>
 if (!decide (d=0)) then
 some (.ret d)
 else
 some (.next ())) (fun v4=>some (.ret v4))) (A4 ((a.length:Int) - (b.Attrs.length:Int))) (a.length:Int) ()) (fun _=>
 some 0) (fun v2=>some v2)) (fun v0=>some v0)
def Kn (b:Int) (a:Int):ca:=
 (E6 b 0 40).bind fun f=>
 (if f then ((if (decide (a=(-1))) then some true else ((E6 a b 40).bind fun c=>
 some (c))).bind fun d=>
 some (d)) else some false).bind fun e=>
 some e
def M5 [Ev] (t:AC) (b:Int):dD:=
 (AM t.Edges b).bind fun a=>
 (IH a.Name).bind fun c=>
 if (!c) then
 some 2
 else
 thenR (forR (ρ:=Int) (fun (i0:Int) (_:Unit)=>
 (AM t.Edges i0).bind fun d=>
 if (d.Name==a.Name) then
 some (.ret 5)
 else
 some (.next ())) 0 b ()) (fun _=>
 (E6 a.From 0 (A4 ((t.Nodes.length:Int) - 1))).bind fun e=>
 (if (!e) then some true else ((E6 a.To 0 (A4 ((t.Nodes.length:Int) - 1))).bind fun f=>
 some (!f))).bind fun g=>
 (if g then some true else ((Kn a.OutLow a.OutHigh).bind fun h=>
 some (!h))).bind fun i=>
 (if i then some true else ((Kn a.InLow a.InHigh).bind fun j=>
 some (!j))).bind fun k=>
 if k then
 some 6
 else
 some 0) (fun v0=>some v0)
def Il [Ev] (t:AC):Option (ByteArray × Int):=
 if (decide ((t.Nodes.length:Int)=0)) then
 some ((⟨#[]⟩:ByteArray),7)
 else
 if ((decide (12<(t.Nodes.length:Int)))||(decide (20<(t.Edges.length:Int)))) then
 some ((⟨#[]⟩:ByteArray),3)
 else
 thenR (forR (ρ:=(ByteArray × Int)) (fun (i0:Int) (_:Unit)=>
 (M6 t i0).bind fun a=>
 if (!decide (a=0)) then
 (AM t.Nodes i0).bind fun c=>
 some (.ret (c.Name,a))
 else
 some (.next ())) 0 (t.Nodes.length:Int) ()) (fun _=>
 thenR (forR (ρ:=(ByteArray × Int)) (fun (i2:Int) (_:Unit)=>
 (M5 t i2).bind fun b=>
 if (!decide (b=0)) then
 (AM t.Edges i2).bind fun d=>
 some (.ret (d.Name,b))
 else
 some (.next ())) 0 (t.Edges.length:Int) ()) (fun _=>
 some ((⟨#[]⟩:ByteArray),0)) (fun v2=>some v2)) (fun v0=>some v0)
def Jh (t:AC) (g:Graph):ca:=
 thenR (forR (ρ:=Bool) (fun (i0:Int) (_:Unit)=>
 (AM g.Nodes i0).bind fun a=>
 (if (decide (a<0)) then some true else ((AM g.Nodes i0).bind fun b=>
 some (decide ((t.Nodes.length:Int)<=b)))).bind fun c=>
 if c then
 some (.ret false)
 else
 some (.next ())) 0 (g.Nodes.length:Int) ()) (fun _=>
 thenR (forR (ρ:=Bool) (fun (i2:Int) (_:Unit)=>
 (AM g.Edges i2).bind fun d=>
 (if (decide (d.Type'<0)) then some true else ((AM g.Edges i2).bind fun e=>
 some (decide ((t.Edges.length:Int)<=e.Type')))).bind fun f=>
 if f then
 some (.ret false)
 else
 some (.next ())) 0 (g.Edges.length:Int) ()) (fun _=>
 some true) (fun v2=>some v2)) (fun v0=>some v0)
def Ko [Ev] (t:AC) (a:Int) (b:Int):dD:=
 (Il t).bind fun c=>
 if (!decide (c.2=0)) then
 some c.2
 else
 (E6 a 0 (A4 ((t.Nodes.length:Int) - 1))).bind fun d=>
 (if (!d) then some true else ((E6 b 0 (A4 ((t.Nodes.length:Int) - 1))).bind fun e=>
 some (!e))).bind fun f=>
 if f then
 some 6
 else
 some 0
def Km [Ev] (t:AC) (a:Int):Option (List Attr × Int):=
 (Ko t a a).bind fun c=>
 if (!decide (c=0)) then
 some ([],c)
 else
 (Nt t a).bind fun d=>
 (forA (fun (i0:Int) (s0:List Attr)=>
 (AM d i0).bind fun b=>
 (B0 [] b.Names).bind fun e=>
 (B0 s0 [Attr.mk b.Name b.Low b.High e]).bind fun f=>
 some f) 0 (d.length:Int) []).bind fun s0=>
 some (s0,0)
def M8 [Ev] (t:AC) (p:Pattern) (b:Int) (a:Int):Option (Attr × Bool):=
 if ((decide (b<0))||(decide ((p.Graph.Nodes.length:Int)<=b))) then
 some (Attr.mk (⟨#[]⟩:ByteArray) 0 0 [],false)
 else
 (AM p.Graph.Nodes b).bind fun d=>
 (Km t d).bind fun c=>
 if (((!decide (c.2=0))||(decide (a<0)))||(decide ((c.1.length:Int)<=a))) then
 some (Attr.mk (⟨#[]⟩:ByteArray) 0 0 [],false)
 else
 (AM c.1 a).bind fun e=>
 some (e,true)
def MH (n:Int):ca:=
 some ((decide ((-1000000)<=n))&&(decide (n<=1000000)))
def J6 (n:Int) (t:Term):dD:=
 if ((((decide (t.Var<(-1)))||(decide (n<=t.Var)))||(decide (t.Add<(-1000000))))||(decide (1000000<t.Add))) then
 some 6
 else
 some 0
def N6 (n:Int) (a:Test):dD:=
 if ((!decide (a.Kind=1))&&(!decide (a.Kind=2))) then
 some 1
 else
 (J6 n a.Left).bind fun b=>
 if (!decide (b=0)) then
 some b
 else
 (J6 n a.Right).bind fun c=>
 some c
def Lz (n:Int) (l:List Test):dD:=
 if ((decide (n<0))||(decide (12<n))) then
 some 6
 else
 if (decide (40<(l.length:Int))) then
 some 3
 else
 thenR (forR (ρ:=Int) (fun (i0:Int) (_:Unit)=>
 (AM l i0).bind fun b=>
 (N6 n b).bind fun a=>
 if (!decide (a=0)) then
 some (.ret a)
 else
 some (.next ())) 0 (l.length:Int) ()) (fun _=>
 some 0) (fun v0=>some v0)
def LM (p:Pattern) (b:Int):ca:=
 thenR (forR (ρ:=Bool) (fun (i0:Int) (_:Unit)=>
 (AM p.Slots i0).bind fun a=>
 if (decide (a.Term.Var=b)) then
 some (.ret true)
 else
 some (.next ())) 0 (p.Slots.length:Int) ()) (fun _=>
 some false) (fun v0=>some v0)
def Jj [Ev] (t:AC) (p:Pattern):dD:=
 (Il t).bind fun c=>
 if (!decide (c.2=0)) then
 some c.2
 else
 (HK p.Graph).bind fun d=>
 if (!decide (d=0)) then
 some d
 else
 (Jh t p.Graph).bind fun f=>
 if (!f) then
 some 13
 else
 if ((decide (p.Vars<0))||(decide (12<p.Vars))) then
 some 6
 else
 if ((decide (10<(p.Slots.length:Int)))||(decide (10<(p.Tests.length:Int)))) then
 some 3
 else
 thenR (forR (ρ:=Int) (fun (i0:Int) (_:Unit)=>
 (AM p.Slots i0).bind fun a=>
 (M8 t p a.Node a.Attr).bind fun g=>
 (if (((!g.2)||(decide (a.Term.Var<(-1))))||(decide (p.Vars<=a.Term.Var))) then some true else ((MH a.Term.Add).bind fun h=>
 some (!h))).bind fun i=>
 if i then
 some (.ret 6)
 else
 some (.next ())) 0 (p.Slots.length:Int) ()) (fun _=>
 (Lz p.Vars p.Tests).bind fun b=>
 if (!decide (b=0)) then
 some b
 else
 thenR (forR (ρ:=Int) (fun (i2:Int) (_:Unit)=>
 (LM p i2).bind fun e=>
 if (!e) then
 some (.ret 9)
 else
 some (.next ())) 0 p.Vars ()) (fun _=>
 some 0) (fun v2=>some v2)) (fun v0=>some v0)
def I2 (c:AA):ca:=
 some (((decide ((A4 ((A4 ((A4 ((c.Map.Nodes.length:Int)+(c.Map.Edges.length:Int)))+(c.Pattern.Graph.Nodes.length:Int)))+(c.Pattern.Graph.Edges.length:Int)))=0))&&(decide ((A4 ((c.Pattern.Slots.length:Int)+(c.Pattern.Tests.length:Int)))=0)))&&(decide (c.Pattern.Vars=0)))
def MB (c:AA):ca:=
 if (decide (c.Kind=1)) then
 (if (decide ((c.Kids.length:Int)=0)) then ((I2 c).bind fun a=>
 some (a)) else some false).bind fun b=>
 some b
 else
 if (decide (c.Kind=2)) then
 (if (decide ((c.Kids.length:Int)=1)) then ((I2 c).bind fun d=>
 some (d)) else some false).bind fun e=>
 some e
 else
 (if (decide (c.Kind=3)) then
 some (decide (c.Kind=3))
 else
 some (decide (c.Kind=4))).bind fun w1=>
 if w1 then
 (if (decide (0<(c.Kids.length:Int))) then ((I2 c).bind fun f=>
 some (f)) else some false).bind fun g=>
 some g
 else
 if (decide (c.Kind=5)) then
 some (decide ((c.Kids.length:Int)=1))
 else
 some false
def GA [Ev]:Nat->AA->ca
 | 0,_=>none
 | n+1,c=>
  (MB c).bind fun d=>
  if (!d) then
  some false
  else
  thenR (forR (ρ:=Bool) (fun (i0:Int) (_:Unit)=>
  (AM c.Kids i0).bind fun a=>
  (GA n a).bind fun b=>
  if (!b) then
  some (.ret false)
  else
  some (.next ())) 0 (c.Kids.length:Int) ()) (fun _=>
  some true) (fun v0=>some v0)
def Ng [Ev] (c:AA):ca:=HH fun n=>GA n c
def G8 [Ev]:Nat->AA->Option (Int × Int)
 | 0,_=>none
 | n+1,c=>
  (forA (fun (i0:Int) (s0:Int × Int)=>
  (AM c.Kids i0).bind fun b=>
  (G8 n b).bind fun a=>
  some (A4 (s0.1+a.1),max s0.2 a.2)) 0 (c.Kids.length:Int) (1,0)).bind fun s0=>
  (if (decide (c.Kind=5)) then
  some (A4 (s0.2+1))
  else
  some s0.2).bind fun w1=>
  some (s0.1,w1)
def ON [Ev] (c:AA):Option (Int × Int):=HH fun n=>G8 n c
def L8 [Ev] (c:AA):dD:=
 (Ng c).bind fun b=>
 if (!b) then
 some 1
 else
 (ON c).bind fun a=>
 if ((decide (12<a.1))||(decide (3<a.2))) then
 some 3
 else
 some 0
def M9 (p:Pattern) (b:Int):ca:=
 thenR (forR (ρ:=Bool) (fun (i0:Int) (_:Unit)=>
 (AM p.Slots i0).bind fun a=>
 if (decide (a.Term.Var=b)) then
 some (.ret true)
 else
 some (.next ())) 0 (p.Slots.length:Int) ()) (fun _=>
 some false) (fun v0=>some v0)
def MA [Ev] (t:AC) (a:Int) (q:Pattern):dD:=
 if (decide (q.Vars<a)) then
 some 20
 else
 (Jj t q).bind fun b=>
 if (!decide (b=9)) then
 some b
 else
 thenR (forR (ρ:=Int) (fun (i0:Int) (_:Unit)=>
 (M9 q i0).bind fun c=>
 if (!c) then
 some (.ret b)
 else
 some (.next ())) a q.Vars ()) (fun _=>
 some 0) (fun v0=>some v0)
def Kq (a:Graph) (b:Graph) (m:Morphism):dD:=
 (HK a).bind fun e=>
 if (!decide (e=0)) then
 some e
 else
 (HK b).bind fun f=>
 if (!decide (f=0)) then
 some f
 else
 if ((!decide ((m.Nodes.length:Int)=(a.Nodes.length:Int)))||(!decide ((m.Edges.length:Int)=(a.Edges.length:Int)))) then
 some 20
 else
 thenR (forR (ρ:=Int) (fun (i0:Int) (_:Unit)=>
 (AM m.Nodes i0).bind fun l=>
 (if (decide (l<0)) then some true else ((AM m.Nodes i0).bind fun n=>
 some (decide ((b.Nodes.length:Int)<=n)))).bind fun o=>
 if o then
 some (.ret 6)
 else
 (AM m.Nodes i0).bind fun p=>
 (AM b.Nodes p).bind fun q=>
 (AM a.Nodes i0).bind fun r=>
 if (!decide (q=r)) then
 some (.ret 13)
 else
 some (.next ())) 0 (a.Nodes.length:Int) ()) (fun _=>
 thenR (forR (ρ:=Int) (fun (i2:Int) (_:Unit)=>
 (AM m.Edges i2).bind fun s=>
 (if (decide (s<0)) then some true else ((AM m.Edges i2).bind fun t=>
 some (decide ((b.Edges.length:Int)<=t)))).bind fun g=>
 if g then
 some (.ret 6)
 else
 (AM a.Edges i2).bind fun c=>
 (AM m.Edges i2).bind fun h=>
 (AM b.Edges h).bind fun d=>
 if (!decide (c.Type'=d.Type')) then
 some (.ret 13)
 else
 (AM m.Nodes c.From).bind fun i=>
 (if (!decide (i=d.From)) then some true else ((AM m.Nodes c.To).bind fun j=>
 some (!decide (j=d.To)))).bind fun k=>
 if k then
 some (.ret 11)
 else
 some (.next ())) 0 (a.Edges.length:Int) ()) (fun _=>
 some 0) (fun v2=>some v2)) (fun v0=>some v0)
def Iv (l:Ne):ca:=
 thenR (forR (ρ:=Bool) (fun (i0:Int) (_:Unit)=>
 thenR (forR (ρ:=Bool) (fun (i2:Int) (_:Unit)=>
 (AM l i0).bind fun a=>
 (AM l i2).bind fun b=>
 if (decide (a=b)) then
 some (.ret false)
 else
 some (.next ())) 0 i0 ()) (fun _=>
 some (.next ())) (fun v2=>some (.ret v2))) 0 (l.length:Int) ()) (fun _=>
 some true) (fun v0=>some v0)
def JU (a:Graph) (b:Graph) (m:Morphism):ca:=
 (Kq a b m).bind fun c=>
 (if (decide (c=0)) then ((Iv m.Nodes).bind fun d=>
 some (d)) else some false).bind fun e=>
 (if e then ((Iv m.Edges).bind fun f=>
 some (f)) else some false).bind fun g=>
 some g
def HL [Ev]:Nat->AC->Pattern->AA->dD
 | 0,_,_,_=>none
 | n+1,t,p,c=>
  if (decide (c.Kind=5)) then
  (MA t p.Vars c.Pattern).bind fun d=>
  if (!decide (d=0)) then
  some d
  else
  (Kq p.Graph c.Pattern.Graph c.Map).bind fun e=>
  if (!decide (e=0)) then
  some e
  else
  (JU p.Graph c.Pattern.Graph c.Map).bind fun f=>
  if (!f) then
  some 1
  else
  thenR (forR (ρ:=Int) (fun (i0:Int) (_:Unit)=>
  (AM c.Kids i0).bind fun b=>
  (HL n t c.Pattern b).bind fun a=>
  if (!decide (a=0)) then
  some (.ret a)
  else
  some (.next ())) 0 (c.Kids.length:Int) ()) (fun _=>
  some 0) (fun v0=>some v0)
  else
  thenR (forR (ρ:=Int) (fun (i0:Int) (_:Unit)=>
  (AM c.Kids i0).bind fun b=>
  (HL n t p b).bind fun a=>
  if (!decide (a=0)) then
  some (.ret a)
  else
  some (.next ())) 0 (c.Kids.length:Int) ()) (fun _=>
  some 0) (fun v0=>some v0)
def UC [Ev] (t:AC) (p:Pattern) (c:AA):dD:=HH fun n=>HL n t p c
def Ku [Ev] (t:AC) (p:Pattern) (c:AA):dD:=
 (Jj t p).bind fun a=>
 if (!decide (a=0)) then
 some a
 else
 (L8 c).bind fun b=>
 if (!decide (b=0)) then
 some b
 else
 (UC t p c).bind fun d=>
 some d
def Ji [Ev] (t:AC) (p:Graph) (g:Graph):dD:=
 (Il t).bind fun a=>
 if (!decide (a.2=0)) then
 some a.2
 else
 (HK p).bind fun b=>
 if (!decide (b=0)) then
 some b
 else
 (HK g).bind fun c=>
 if (!decide (c=0)) then
 some c
 else
 (Jh t p).bind fun d=>
 (if (!d) then some true else ((Jh t g).bind fun e=>
 some (!e))).bind fun f=>
 if f then
 some 13
 else
 some 0
def L3 [Ev] (t:AC) (p:Graph) (g:Graph):ca:=
 (Mb t).bind fun h=>
 (if h then ((KI p).bind fun a=>
 some (a)) else some false).bind fun b=>
 (if b then ((KI g).bind fun c=>
 some (c)) else some false).bind fun d=>
 (if d then ((Ji t p g).bind fun e=>
 some ((!decide (e=0))||(((decide ((A4 ((p.Nodes.length:Int)+(p.Edges.length:Int)))<=6))&&(decide ((g.Nodes.length:Int)<=8)))&&(decide ((g.Edges.length:Int)<=12))))) else some false).bind fun f=>
 some f
def L5 [Ev] (t:AC) (p:Pattern) (a:AT):ca:=
 (Md p).bind fun f=>
 (if f then ((Mc a).bind fun b=>
 some (b)) else some false).bind fun c=>
 (if c then ((L3 t p.Graph a.Graph).bind fun d=>
 some (d)) else some false).bind fun e=>
 some e
def Hx [Ev]:Nat->AA->ca
 | 0,_=>none
 | n+1,c=>
  thenR (forR (ρ:=Bool) (fun (i0:Int) (_:Unit)=>
  (AM c.Kids i0).bind fun a=>
  (Hx n a).bind fun b=>
  if (!b) then
  some (.ret false)
  else
  some (.next ())) 0 (c.Kids.length:Int) ()) (fun _=>
  some (decide ((A4 ((c.Pattern.Graph.Nodes.length:Int)+(c.Pattern.Graph.Edges.length:Int)))<=6))) (fun v0=>some v0)
def O2 [Ev] (c:AA):ca:=HH fun n=>Hx n c
def FU [Ev]:Nat->Pattern->AA->Int->Int->ca
 | 0,_,_,_,_=>none
 | n+1,p,c,a,b=>
  (if (decide (c.Kind=5)) then
  some c.Pattern
  else
  some p).bind fun w1=>
  thenR (I7 (ρ:=Bool) (fun (s0:Int × Int)=>
  if (decide (s0.2<(w1.Graph.Nodes.length:Int))) then
  some (.next (A4 (s0.1*a),A4 (s0.2+1)))
  else
  some (.brk (s0.1,s0.2))) (1,(p.Graph.Nodes.length:Int))) (fun s0=>
  thenR (I7 (ρ:=Bool) (fun (s2:Int × Int)=>
  if (decide (s2.2<(w1.Graph.Edges.length:Int))) then
  some (.next (A4 (s2.1*b),A4 (s2.2+1)))
  else
  some (.brk (s2.1,s2.2))) (s0.1,(p.Graph.Edges.length:Int))) (fun s2=>
  thenR (forR (ρ:=Bool) (fun (i4:Int) (_:Unit)=>
  (AM c.Kids i4).bind fun d=>
  (FU n w1 d a b).bind fun e=>
  if (!e) then
  some (.ret false)
  else
  some (.next ())) 0 (c.Kids.length:Int) ()) (fun _=>
  some (decide (s2.1<=5000))) (fun v4=>some v4)) (fun v2=>some v2)) (fun v0=>some v0)
def OM [Ev] (p:Pattern) (c:AA) (a:Int) (b:Int):ca:=HH fun n=>FU n p c a b
def E0 [Ev] (t:AC) (p:Pattern) (c:AA) (a:AT):ca:=
 (N8 c).bind fun b=>
 (if (!b) then some true else ((Md p).bind fun d=>
 some (!d))).bind fun e=>
 (if e then some true else ((Mc a).bind fun f=>
 some (!f))).bind fun g=>
 if g then
 some false
 else
 (Ku t p c).bind fun h=>
 (if (!decide (h=0)) then some true else ((L5 t p a).bind fun i=>
 (if i then ((O2 c).bind fun j=>
 some (j)) else some false).bind fun k=>
 (if ((k&&(decide ((a.Graph.Nodes.length:Int)<=6)))&&(decide ((a.Graph.Edges.length:Int)<=8))) then ((OM p c 14 18).bind fun l=>
 some (l)) else some false).bind fun m=>
 some (m))).bind fun n=>
 some n
def Lw [Ev] (t:AC) (a:H8) (y:KO):ca:=
 (Mb t).bind fun d=>
 (if d then ((E0 t a.P a.C y.H).bind fun b=>
 some (b)) else some false).bind fun c=>
 some ((c&&(decide ((A4 ((y.M.Morphism.Nodes.length:Int)+(y.M.Morphism.Edges.length:Int)))<=150)))&&(decide ((y.M.Vars.length:Int)<=40)))
def M7 [Ev] (t:AC) (a:Int) (i:Ne):dD:=
 if (decide ((t.Nodes.length:Int)<=a)) then
 some 6
 else
 (AM t.Nodes a).bind fun c=>
 if c.Abstract then
 some 13
 else
 (Km t a).bind fun b=>
 if (!decide ((i.length:Int)=(b.1.length:Int))) then
 some 20
 else
 thenR (forR (ρ:=Int) (fun (i0:Int) (_:Unit)=>
 (AM i i0).bind fun d=>
 (AM b.1 i0).bind fun e=>
 (if (decide (d<e.Low)) then some true else ((AM i i0).bind fun f=>
 (AM b.1 i0).bind fun g=>
 some (decide (g.High<f)))).bind fun h=>
 if h then
 some (.ret 6)
 else
 some (.next ())) 0 (b.1.length:Int) ()) (fun _=>
 some 0) (fun v0=>some v0)
def Hw [Ev]:Nat->AC->Int->Int->ca
 | 0,_,_,_=>none
 | n+1,t,a,b=>
  (if (decide (a=b)) then some true else ((if (decide (0<=a)) then ((AM t.Nodes a).bind fun c=>
  (Hw n t c.Parent b).bind fun d=>
  some (d)) else some false).bind fun e=>
  some (e))).bind fun f=>
  some f
def II [Ev] (t:AC) (a:Int) (b:Int):ca:=HH fun n=>Hw n t a b
def M4 [Ev] (t:AC) (a:Int) (b:Int) (c:Int):ca:=
 (Ko t b c).bind fun d=>
 (if (!decide (d=0)) then some true else ((E6 a 0 (A4 ((t.Edges.length:Int) - 1))).bind fun e=>
 some (!e))).bind fun f=>
 if f then
 some false
 else
 (AM t.Edges a).bind fun g=>
 (II t b g.From).bind fun h=>
 (if h then ((AM t.Edges a).bind fun i=>
 (II t c i.To).bind fun j=>
 some (j)) else some false).bind fun k=>
 some k
def Kr [Ev] (t:AC) (a:AT):Option (Int × Int):=
 (Il t).bind fun c=>
 if (!decide (c.2=0)) then
 some ((-1),c.2)
 else
 (HK a.Graph).bind fun d=>
 if (!decide (d=0)) then
 some ((-1),d)
 else
 if (!decide ((a.Values.length:Int)=(a.Graph.Nodes.length:Int))) then
 some ((-1),20)
 else
 thenR (forR (ρ:=(Int × Int)) (fun (i0:Int) (_:Unit)=>
 (AM a.Graph.Nodes i0).bind fun f=>
 (AM a.Values i0).bind fun g=>
 (M7 t f g).bind fun e=>
 if (!decide (e=0)) then
 some (.ret (i0,e))
 else
 some (.next ())) 0 (a.Graph.Nodes.length:Int) ()) (fun _=>
 thenR (forR (ρ:=(Int × Int)) (fun (i2:Int) (_:Unit)=>
 (AM a.Graph.Edges i2).bind fun b=>
 if (decide ((t.Edges.length:Int)<=b.Type')) then
 some (.ret (i2,6))
 else
 (AM a.Graph.Nodes b.From).bind fun h=>
 (AM a.Graph.Nodes b.To).bind fun i=>
 (M4 t b.Type' h i).bind fun j=>
 if (!j) then
 some (.ret (i2,13))
 else
 some (.next ())) 0 (a.Graph.Edges.length:Int) ()) (fun _=>
 some ((-1),0)) (fun v2=>some v2)) (fun v0=>some v0)
def J8 (l:Ne):ca:=
 thenR (forR (ρ:=Bool) (fun (i0:Int) (_:Unit)=>
 thenR (forR (ρ:=Bool) (fun (i2:Int) (_:Unit)=>
 (AM l i0).bind fun a=>
 (AM l i2).bind fun b=>
 if (decide (a=b)) then
 some (.ret false)
 else
 some (.next ())) 0 i0 ()) (fun _=>
 some (.next ())) (fun v2=>some (.ret v2))) 0 (l.length:Int) ()) (fun _=>
 some true) (fun v0=>some v0)
def L4 [Ev] (t:AC) (p:Graph) (g:Graph) (m:Morphism) (a:Bool):dD:=
 if ((!decide ((m.Nodes.length:Int)=(p.Nodes.length:Int)))||(!decide ((m.Edges.length:Int)=(p.Edges.length:Int)))) then
 some 20
 else
 thenR (forR (ρ:=Int) (fun (i0:Int) (_:Unit)=>
 (AM m.Nodes i0).bind fun n=>
 (if (decide (n<0)) then some true else ((AM m.Nodes i0).bind fun o=>
 some (decide ((g.Nodes.length:Int)<=o)))).bind fun q=>
 if q then
 some (.ret 6)
 else
 (AM m.Nodes i0).bind fun r=>
 (AM g.Nodes r).bind fun s=>
 (AM p.Nodes i0).bind fun u=>
 (II t s u).bind fun v=>
 if (!v) then
 some (.ret 13)
 else
 some (.next ())) 0 (m.Nodes.length:Int) ()) (fun _=>
 thenR (forR (ρ:=Int) (fun (i2:Int) (_:Unit)=>
 (AM m.Edges i2).bind fun w=>
 (if (decide (w<0)) then some true else ((AM m.Edges i2).bind fun x=>
 some (decide ((g.Edges.length:Int)<=x)))).bind fun y=>
 if y then
 some (.ret 6)
 else
 (AM p.Edges i2).bind fun c=>
 (AM m.Edges i2).bind fun d=>
 (AM g.Edges d).bind fun b=>
 if (!decide (c.Type'=b.Type')) then
 some (.ret 13)
 else
 (AM m.Nodes c.From).bind fun e=>
 (if (!decide (e=b.From)) then some true else ((AM m.Nodes c.To).bind fun f=>
 some (!decide (f=b.To)))).bind fun h=>
 if h then
 some (.ret 11)
 else
 some (.next ())) 0 (m.Edges.length:Int) ()) (fun _=>
 (if a then ((J8 m.Nodes).bind fun i=>
 (if (!i) then some true else ((J8 m.Edges).bind fun j=>
 some (!j))).bind fun k=>
 some (k)) else some false).bind fun l=>
 if l then
 some 5
 else
 some 0) (fun v2=>some v2)) (fun v0=>some v0)
def Ks [Ev] (t:AC) (p:Graph) (g:Graph) (m:Morphism) (a:Bool):dD:=
 (Ji t p g).bind fun b=>
 if (!decide (b=0)) then
 some b
 else
 (L4 t p g m a).bind fun c=>
 some c
def L7 [Ev] (t:AC) (p:Pattern) (c:AT):dD:=
 (Jj t p).bind fun a=>
 if (!decide (a=0)) then
 some a
 else
 (Kr t c).bind fun b=>
 some b.2
def Jk (a:Term) (c:Ne):dD:=
 if (decide (a.Var<0)) then
 some a.Add
 else
 (AM c a.Var).bind fun b=>
 some (A4 (b+a.Add))
def Kl (t:Term) (b:Ne):Option (Int × Bool):=
 if (decide (t.Var=(-1))) then
 some (t.Add,true)
 else
 if ((decide (t.Var<0))||(decide ((b.length:Int)<=t.Var))) then
 some (0,false)
 else
 (AM b t.Var).bind fun a=>
 some (A4 (a+t.Add),true)
def Ly (a:Test) (d:Ne):ca:=
 (Kl a.Left d).bind fun b=>
 (Kl a.Right d).bind fun c=>
 if ((!b.2)||(!c.2)) then
 some false
 else
 some (((decide (a.Kind=1))&&(decide (b.1<=c.1)))||((decide (a.Kind=2))&&(decide (b.1=c.1))))
def LK (p:Pattern) (l:AT) (m:Morphism):Option (Ne × Int):=
 (Jn p.Vars 0).bind fun d=>
 (Jn p.Vars false).bind fun e=>
 thenR (forR (ρ:=(Ne × Int)) (fun (i0:Int) (s0:Ne × d0)=>
 (AM p.Slots i0).bind fun a=>
 (AM m.Nodes a.Node).bind fun f=>
 (AM l.Values f).bind fun g=>
 (AM g a.Attr).bind fun b=>
 (if (decide (0<=a.Term.Var)) then ((AM s0.2 a.Term.Var).bind fun h=>
 some (!h)) else some false).bind fun i=>
 if i then
 (AM s0.2 a.Term.Var).bind fun n=>
 (AM s0.1 a.Term.Var).bind fun o=>
 (Jk a.Term (B1 s0.1 a.Term.Var (A4 (b - a.Term.Add)))).bind fun c=>
 if (!decide (c=b)) then
 some (.ret ([],11))
 else
 some (.next (B1 s0.1 a.Term.Var (A4 (b - a.Term.Add)),B1 s0.2 a.Term.Var true))
 else
 (Jk a.Term s0.1).bind fun c=>
 if (!decide (c=b)) then
 some (.ret ([],11))
 else
 some (.next (s0.1,s0.2))) 0 (p.Slots.length:Int) (d,e)) (fun s0=>
 thenR (forR (ρ:=(Ne × Int)) (fun (i2:Int) (_:Unit)=>
 (AM p.Tests i2).bind fun j=>
 (Ly j s0.1).bind fun k=>
 if (!k) then
 some (.ret ([],16))
 else
 some (.next ())) 0 (p.Tests.length:Int) ()) (fun _=>
 some (s0.1,0)) (fun v2=>some v2)) (fun v0=>some v0)
def L6 [Ev] (t:AC) (p:Pattern) (a:AT) (m:Morphism):Option (Ne × Int):=
 (L7 t p a).bind fun b=>
 if (!decide (b=0)) then
 some ([],b)
 else
 (Ks t p.Graph a.Graph m false).bind fun c=>
 if (!decide (c=0)) then
 some ([],c)
 else
 (LK p a m).bind fun d=>
 some (d.1,d.2)
def La (a:Ne) (b:Ne):ca:=
 if (!decide ((a.length:Int)=(b.length:Int))) then
 some false
 else
 thenR (forR (ρ:=Bool) (fun (i0:Int) (_:Unit)=>
 (AM a i0).bind fun c=>
 (AM b i0).bind fun d=>
 if (!decide (c=d)) then
 some (.ret false)
 else
 some (.next ())) 0 (a.length:Int) ()) (fun _=>
 some true) (fun v0=>some v0)
def Nv [Ev] (t:AC) (p:Pattern) (d:AT) (m:AF) (a:Bool):dD:=
 (Ks t p.Graph d.Graph m.Morphism a).bind fun c=>
 if (!decide (c=0)) then
 some c
 else
 (L6 t p d m.Morphism).bind fun b=>
 (if (decide (b.2=0)) then ((La b.1 m.Vars).bind fun e=>
 some (!e)) else some false).bind fun f=>
 (if f then
 some 11
 else
 some b.2).bind fun w1=>
 some w1
def L9 [Ev] (t:AC) (p:Pattern) (c:AA) (e:AT) (m:AF) (a:Bool):dD:=
 (Ku t p c).bind fun b=>
 if (!decide (b=0)) then
 some b
 else
 (Kr t e).bind fun d=>
 if (!decide (d.2=0)) then
 some d.2
 else
 (Nv t p e m a).bind fun f=>
 some f
def J9 (l:Ne) (a:Int) (n:Int):dD:=
 if (!decide ((l.length:Int)=a)) then
 some 20
 else
 thenR (forR (ρ:=Int) (fun (i0:Int) (_:Unit)=>
 (AM l i0).bind fun b=>
 (if (decide (b<(-1))) then some true else ((AM l i0).bind fun c=>
 some (decide (n<=c)))).bind fun d=>
 if d then
 some (.ret 6)
 else
 some (.next ())) 0 (l.length:Int) ()) (fun _=>
 some 0) (fun v0=>some v0)
def HN (c:AW) (a:Ne):ca:=
 thenR (forR (ρ:=Bool) (fun (i0:Int) (_:Unit)=>
 (AM c.p.Edges i0).bind fun b=>
 if ((decide ((a.length:Int)<=b.From))||(decide ((a.length:Int)<=b.To))) then
 some (.next ())
 else
 (forA (fun (i2:Int) (s2:Bool)=>
 (AM c.g.Edges i2).bind fun d=>
 (if s2 then some true else ((if (decide (b.Type'=d.Type')) then ((AM a b.From).bind fun e=>
 some (decide (d.From=e))) else some false).bind fun f=>
 (if f then ((AM a b.To).bind fun h=>
 some (decide (d.To=h))) else some false).bind fun i=>
 some (i))).bind fun j=>
 some j) 0 (c.g.Edges.length:Int) false).bind fun s2=>
 if (!s2) then
 some (.ret false)
 else
 some (.next ())) 0 (c.p.Edges.length:Int) ()) (fun _=>
 some true) (fun v0=>some v0)
def EB [Ev] (b:AW) (l:Ne) (n:Int):ca:=
 thenR (I7 (ρ:=Bool) (fun (s0:Int)=>
 if ((decide (s0<(l.length:Int)))&&b.injective) then
 (AM l s0).bind fun a=>
 if (decide (a=n)) then
 some (.ret true)
 else
 some (.next (A4 (s0+1)))
 else
 some (.brk s0)) 0) (fun s0=>
 some false) (fun v0=>some v0)
def DD [Ev]:Nat->AW->Ne->Ne->Option AW
 | 0,_,_,_=>none
 | n+1,a,b,l=>
  if (decide (a.most<(a.found.length:Int))) then
  some a
  else
  if (decide ((l.length:Int)=(a.p.Edges.length:Int))) then
  (B0 [] b).bind fun o=>
  (B0 [] l).bind fun q=>
  (B0 a.found [Morphism.mk o q]).bind fun r=>
  some (AW.mk a.t a.p a.g a.partial_ a.injective a.most r)
  else
  (AM a.p.Edges (l.length:Int)).bind fun c=>
  thenR (I7 (ρ:=AW) (fun (s0:AW × Int)=>
  if (decide (s0.2<(s0.1.g.Edges.length:Int))) then
  (AM s0.1.g.Edges s0.2).bind fun d=>
  (AM s0.1.partial_.Edges (l.length:Int)).bind fun s=>
  (if (decide (0<=s)) then ((AM s0.1.partial_.Edges (l.length:Int)).bind fun u=>
  some (!decide (u=s0.2))) else some false).bind fun v=>
  (if v then some true else ((EB s0.1 l s0.2).bind fun w=>
  some (w))).bind fun x=>
  (if (x||(!decide (c.Type'=d.Type'))) then some true else ((AM b c.From).bind fun e=>
  some (!decide (d.From=e)))).bind fun f=>
  (if f then some true else ((AM b c.To).bind fun h=>
  some (!decide (d.To=h)))).bind fun i=>
  if i then
  some (.next (s0.1,A4 (s0.2+1)))
  else
  (B0 [] l).bind fun j=>
  (B0 j [s0.2]).bind fun k=>
  (DD n s0.1 b k).bind fun m=>
  some (.next (m,A4 (s0.2+1)))
  else
  some (.brk (s0.1,s0.2))) (a,0)) (fun s0=>
  some s0.1) (fun v0=>some v0)
def MV [Ev] (b:AW) (a:Ne) (l:Ne):Option AW:=HH fun n=>DD n b a l
def DE [Ev]:Nat->AW->Ne->Option AW
 | 0,_,_=>none
 | n+1,a,l=>
  (if (decide (a.most<(a.found.length:Int))) then some true else ((HN a l).bind fun d=>
  some (!d))).bind fun e=>
  if e then
  some a
  else
  if (decide ((l.length:Int)=(a.p.Nodes.length:Int))) then
  (MV a l []).bind fun f=>
  some f
  else
  thenR (I7 (ρ:=AW) (fun (s0:AW × Int)=>
  if (decide (s0.2<(s0.1.g.Nodes.length:Int))) then
  (AM s0.1.partial_.Nodes (l.length:Int)).bind fun h=>
  (if (decide (0<=h)) then ((AM s0.1.partial_.Nodes (l.length:Int)).bind fun i=>
  some (!decide (i=s0.2))) else some false).bind fun j=>
  (if j then some true else ((EB s0.1 l s0.2).bind fun k=>
  some (k))).bind fun m=>
  (if m then some true else ((AM s0.1.g.Nodes s0.2).bind fun o=>
  (AM s0.1.p.Nodes (l.length:Int)).bind fun q=>
  (II s0.1.t o q).bind fun r=>
  some (!r))).bind fun s=>
  if s then
  some (.next (s0.1,A4 (s0.2+1)))
  else
  (B0 [] l).bind fun u=>
  (B0 u [s0.2]).bind fun b=>
  (DE n s0.1 b).bind fun c=>
  some (.next (c,A4 (s0.2+1)))
  else
  some (.brk (s0.1,s0.2))) (a,0)) (fun s0=>
  some s0.1) (fun v0=>some v0)
def Jv [Ev] (a:AW) (l:Ne):Option AW:=HH fun n=>DE n a l
def N7 [Ev] (t:AC) (p:Graph) (g:Graph) (b:Morphism) (a:Bool) (c:Int):Option (List Morphism):=
 (Jv (AW.mk t p g b a c []) []).bind fun d=>
 some d.found
def LJ [Ev] (t:AC) (p:Graph) (g:Graph) (a:Morphism) (b:Bool):Option (List Morphism × Int):=
 (Ji t p g).bind fun c=>
 if (!decide (c=0)) then
 some ([],c)
 else
 if ((!decide ((a.Nodes.length:Int)=(p.Nodes.length:Int)))||(!decide ((a.Edges.length:Int)=(p.Edges.length:Int)))) then
 some ([],20)
 else
 (J9 a.Nodes (p.Nodes.length:Int) (g.Nodes.length:Int)).bind fun d=>
 if (!decide (d=0)) then
 some ([],d)
 else
 (J9 a.Edges (p.Edges.length:Int) (g.Edges.length:Int)).bind fun e=>
 if (!decide (e=0)) then
 some ([],e)
 else
 (N7 t p g a b 5000).bind fun f=>
 if (decide (5000<(f.length:Int))) then
 some ([],3)
 else
 some (f,0)
def KA (n:Int) (b:Ne) (m:Ne):Option Ne:=
 (forA (fun (i0:Int) (s0:Ne)=>
 (B0 s0 [(-1)]).bind fun c=>
 some c) 0 n []).bind fun s0=>
 (forA (fun (i2:Int) (s2:Ne)=>
 (AM b i2).bind fun a=>
 (AM m i2).bind fun d=>
 (AM s2 a).bind fun e=>
 some (B1 s2 a d)) 0 (b.length:Int) s0).bind fun s2=>
 some s2
def Ih (a:Term) (c:Ne):Option (Int × Int):=
 if ((decide (a.Var<(-1)))||(decide ((c.length:Int)<=a.Var))) then
 some (0,6)
 else
 (Jk a c).bind fun b=>
 some (b,0)
def LN (q:Pattern) (p:AT) (m:Morphism) (c:Ne):Option (Ne × Bool):=
 (B0 [] c).bind fun h=>
 (Jn q.Vars false).bind fun i=>
 (forA (fun (i0:Int) (s0:Ne × d0)=>
 (AM s0.2 i0).bind fun t=>
 if (decide ((c.length:Int)<=i0)) then
 (B0 s0.1 [0]).bind fun j=>
 some (j,B1 s0.2 i0 (decide (i0<(c.length:Int))))
 else
 some (s0.1,B1 s0.2 i0 (decide (i0<(c.length:Int))))) 0 q.Vars (h,i)).bind fun s0=>
 thenR (forR (ρ:=(Ne × Bool)) (fun (i2:Int) (s2:Ne × d0)=>
 (AM q.Slots i2).bind fun a=>
 (AM m.Nodes a.Node).bind fun k=>
 (AM p.Values k).bind fun l=>
 (AM l a.Attr).bind fun e=>
 (if (decide (0<=a.Term.Var)) then ((AM s2.2 a.Term.Var).bind fun n=>
 some (!n)) else some false).bind fun o=>
 if o then
 (AM s2.1 a.Term.Var).bind fun r=>
 (AM s2.2 a.Term.Var).bind fun s=>
 (Ih a.Term (B1 s2.1 a.Term.Var (A4 (e - a.Term.Add)))).bind fun d=>
 if (!decide (d.1=e)) then
 some (.ret ([],false))
 else
 some (.next (B1 s2.1 a.Term.Var (A4 (e - a.Term.Add)),B1 s2.2 a.Term.Var true))
 else
 (Ih a.Term s2.1).bind fun d=>
 if (!decide (d.1=e)) then
 some (.ret ([],false))
 else
 some (.next (s2.1,s2.2))) 0 (q.Slots.length:Int) (s0.1,s0.2)) (fun s2=>
 thenR (forR (ρ:=(Ne × Bool)) (fun (i4:Int) (_:Unit)=>
 (AM q.Tests i4).bind fun b=>
 (Ih b.Left s2.1).bind fun f=>
 (Ih b.Right s2.1).bind fun g=>
 if (((decide (b.Kind=1))&&(decide (g.1<f.1)))||((decide (b.Kind=2))&&(!decide (f.1=g.1)))) then
 some (.ret ([],false))
 else
 some (.next ())) 0 (q.Tests.length:Int) ()) (fun _=>
 some (s2.1,true)) (fun v4=>some v4)) (fun v2=>some v2)
def H2 [Ev] (t:AC) (c:AA) (e:AT) (m:AF) (a:Bool):Option (List AF × Int):=
 (KA (c.Pattern.Graph.Nodes.length:Int) c.Map.Nodes m.Morphism.Nodes).bind fun f=>
 (KA (c.Pattern.Graph.Edges.length:Int) c.Map.Edges m.Morphism.Edges).bind fun g=>
 (LJ t c.Pattern.Graph e.Graph (Morphism.mk f g) a).bind fun b=>
 if (!decide (b.2=0)) then
 some ([],b.2)
 else
 (forA (fun (i0:Int) (s0:List AF)=>
 (AM b.1 i0).bind fun h=>
 (LN c.Pattern e h m.Vars).bind fun d=>
 if d.2 then
 (AM b.1 i0).bind fun i=>
 (B0 s0 [AF.mk i d.1]).bind fun j=>
 some j
 else
 some s0) 0 (b.1.length:Int) []).bind fun s0=>
 some (s0,0)
def FM [Ev]:Nat->AC->AA->AT->AF->Bool->Option (A1 × Int)
 | 0,_,_,_,_,_=>none
 | n+1,t,c,f,m,a=>
  if (decide (c.Kind=2)) then
  (AM c.Kids 0).bind fun l=>
  (FM n t l f m a).bind fun g=>
  if (decide (g.2=0)) then
  some (A1.mk 0 (AF.mk (Morphism.mk [] []) []) [],10)
  else
  if (decide (g.2=10)) then
  some (A1.mk 0 (AF.mk (Morphism.mk [] []) []) [],0)
  else
  some (A1.mk 0 (AF.mk (Morphism.mk [] []) []) [],g.2)
  else
  if (decide (c.Kind=3)) then
  thenR (forR (ρ:=(A1 × Int)) (fun (i1:Int) (s1:A1 × A1)=>
  (AM c.Kids i1).bind fun o=>
  (FM n t o f m a).bind fun h=>
  if (!decide (h.2=0)) then
  some (.ret (A1.mk 0 (AF.mk (Morphism.mk [] []) []) [],h.2))
  else
  (B0 s1.2.Kids [h.1]).bind fun p=>
  some (.next (s1.1,A1.mk s1.2.Choice s1.2.Match p))) 0 (c.Kids.length:Int) (A1.mk 0 (AF.mk (Morphism.mk [] []) []) [],A1.mk 0 (AF.mk (Morphism.mk [] []) []) [])) (fun s1=>
  some (s1.2,0)) (fun v1=>some v1)
  else
  if (decide (c.Kind=4)) then
  thenR (forR (ρ:=(A1 × Int)) (fun (i3:Int) (s3:A1)=>
  (AM c.Kids i3).bind fun q=>
  (FM n t q f m a).bind fun d=>
  if (!decide (d.2=10)) then
  some (.ret (A1.mk i3 (AF.mk (Morphism.mk [] []) []) [d.1],d.2))
  else
  some (.next s3)) 0 (c.Kids.length:Int) (A1.mk 0 (AF.mk (Morphism.mk [] []) []) [])) (fun s3=>
  some (A1.mk 0 (AF.mk (Morphism.mk [] []) []) [],10)) (fun v3=>some v3)
  else
  if (decide (c.Kind=5)) then
  (H2 t c f m a).bind fun b=>
  if (!decide (b.2=0)) then
  some (A1.mk 0 (AF.mk (Morphism.mk [] []) []) [],b.2)
  else
  thenR (forR (ρ:=(A1 × Int)) (fun (i5:Int) (s5:A1)=>
  (AM c.Kids 0).bind fun i=>
  (AM b.1 i5).bind fun j=>
  (FM n t i f j a).bind fun e=>
  if (!decide (e.2=10)) then
  (AM b.1 i5).bind fun k=>
  some (.ret (A1.mk 0 k [e.1],e.2))
  else
  some (.next s5)) 0 (b.1.length:Int) (A1.mk 0 (AF.mk (Morphism.mk [] []) []) [])) (fun s5=>
  some (A1.mk 0 (AF.mk (Morphism.mk [] []) []) [],10)) (fun v5=>some v5)
  else
  some (A1.mk 0 (AF.mk (Morphism.mk [] []) []) [],0)
def Pm [Ev] (t:AC) (c:AA) (b:AT) (m:AF) (a:Bool):Option (A1 × Int):=HH fun n=>FM n t c b m a
def Kt [Ev] (t:AC) (c:AA) (d:AT) (m:AF) (a:Bool):Option (Bool × Int):=
 (Pm t c d m a).bind fun b=>
 if (decide (b.2=10)) then
 some (false,0)
 else
 some (decide (b.2=0),b.2)
def JV [Ev] (t:AC) (p:Pattern) (c:AA) (e:AT) (m:AF) (a:Bool):Option (Bool × Int):=
 (L9 t p c e m a).bind fun b=>
 if (!decide (b=0)) then
 some (false,b)
 else
 (Kt t c e m a).bind fun d=>
 some (d.1,d.2)
def HZ (b:Ne) (c:Int) (a:Ne):Option AH:=
 (B0 [] b).bind fun e=>
 (B0 [] a).bind fun d=>
 some (AH.mk e c d)
def HY (a:Ne) (n:Int):Option Ne:=
 (B0 [] a).bind fun c=>
 (B0 c [n]).bind fun b=>
 some b
def ref23_holds [Ev] (a:A3) (c:AA):Option (Bool × Int):=
 (Kt a.T c a.H a.M a.Injective).bind fun b=>
 some (b.1,b.2)
def Qn (a:A3) (m:AF):Option A3:=
 some (A3.mk a.T a.H m a.Injective)
mutual
def CU [Ev]:Nat->A3->AA->Ne->Bool->Option (List AH × Int)
 | 0,_,_,_,_=>none
 | n+1,d,c,a,b=>
  if (decide (c.Kind=1)) then
  (HZ a 1 []).bind fun k=>
  some ([k],0)
  else
  if (decide (c.Kind=2)) then
  (AM c.Kids 0).bind fun l=>
  (HY a 0).bind fun m=>
  (CU n d l m (!b)).bind fun e=>
  some (e.1,e.2)
  else
  if (decide (c.Kind=3)) then
  if b then
  (GT n d c a true).bind fun f=>
  some (f.1,f.2)
  else
  (GR n d c a false).bind fun g=>
  some (g.1,g.2)
  else
  if (decide (c.Kind=4)) then
  if b then
  (GR n d c a true).bind fun h=>
  some (h.1,h.2)
  else
  (GT n d c a false).bind fun i=>
  some (i.1,i.2)
  else
  (FO n d c a b).bind fun j=>
  some (j.1,j.2)
def GT [Ev]:Nat->A3->AA->Ne->Bool->Option (List AH × Int)
 | 0,_,_,_,_=>none
 | n+1,e,c,f,a=>
  thenR (forR (ρ:=(List AH × Int)) (fun (i0:Int) (_:Unit)=>
  (AM c.Kids i0).bind fun g=>
  (ref23_holds e g).bind fun b=>
  if (!decide (b.2=0)) then
  some (.ret ([],b.2))
  else
  if (!(b.1==a)) then
  (AM c.Kids i0).bind fun h=>
  (HY f i0).bind fun i=>
  (CU n e h i a).bind fun d=>
  some (.ret (d.1,d.2))
  else
  some (.next ())) 0 (c.Kids.length:Int) ()) (fun _=>
  some ([],0)) (fun v0=>some v0)
def GR [Ev]:Nat->A3->AA->Ne->Bool->Option (List AH × Int)
 | 0,_,_,_,_=>none
 | n+1,h,c,d,b=>
  thenR (forR (ρ:=(List AH × Int)) (fun (i0:Int) (s0:List AH)=>
  (AM c.Kids i0).bind fun e=>
  (HY d i0).bind fun f=>
  (CU n h e f b).bind fun a=>
  if (!decide (a.2=0)) then
  some (.ret ([],a.2))
  else
  (B0 s0 a.1).bind fun g=>
  some (.next g)) 0 (c.Kids.length:Int) []) (fun s0=>
  some (s0,0)) (fun v0=>some v0)
def FO [Ev]:Nat->A3->AA->Ne->Bool->Option (List AH × Int)
 | 0,_,_,_,_=>none
 | n+1,h,c,e,a=>
  (H2 h.T c h.H h.M h.Injective).bind fun f=>
  if (!decide (f.2=0)) then
  some ([],f.2)
  else
  if (a&&(decide ((f.1.length:Int)=0))) then
  (HZ e 3 h.M.Morphism.Nodes).bind fun r=>
  some ([r],0)
  else
  thenR (I7 (ρ:=(List AH × Int)) (fun (s0:List AH × Int)=>
  if ((decide (s0.2<(f.1.length:Int)))&&((!a)||(decide (s0.2<5)))) then
  (AM f.1 s0.2).bind fun s=>
  (Qn h s).bind fun m=>
  if (!a) then
  (AM c.Kids 0).bind fun t=>
  (ref23_holds m t).bind fun o=>
  if (!decide (o.2=0)) then
  some (.ret ([],o.2))
  else
  if (!o.1) then
  some (.next (s0.1,A4 (s0.2+1)))
  else
  (AM f.1 s0.2).bind fun p=>
  (HZ e 2 p.Morphism.Nodes).bind fun q=>
  (B0 s0.1 [q]).bind fun g=>
  (if a then some true else ((AM c.Kids 0).bind fun i=>
  some (!decide (i.Kind=1)))).bind fun j=>
  if j then
  (AM c.Kids 0).bind fun k=>
  (HY e 0).bind fun l=>
  (CU n m k l a).bind fun b=>
  if (!decide (b.2=0)) then
  some (.ret ([],b.2))
  else
  (B0 g b.1).bind fun d=>
  if (!a) then
  some (.brk (d,s0.2))
  else
  some (.next (d,A4 (s0.2+1)))
  else
  if (!a) then
  some (.brk (g,s0.2))
  else
  some (.next (g,A4 (s0.2+1)))
  else
  (AM f.1 s0.2).bind fun p=>
  (HZ e 4 p.Morphism.Nodes).bind fun q=>
  (B0 s0.1 [q]).bind fun g=>
  (if a then some true else ((AM c.Kids 0).bind fun i=>
  some (!decide (i.Kind=1)))).bind fun j=>
  if j then
  (AM c.Kids 0).bind fun k=>
  (HY e 0).bind fun l=>
  (CU n m k l a).bind fun b=>
  if (!decide (b.2=0)) then
  some (.ret ([],b.2))
  else
  (B0 g b.1).bind fun d=>
  if (!a) then
  some (.brk (d,s0.2))
  else
  some (.next (d,A4 (s0.2+1)))
  else
  if (!a) then
  some (.brk (g,s0.2))
  else
  some (.next (g,A4 (s0.2+1)))
  else
  some (.brk (s0.1,s0.2))) ([],0)) (fun s0=>
  some (s0.1,0)) (fun v0=>some v0)
end
def OO [Ev] (d:A3) (c:AA) (b:Ne) (a:Bool):Option (List AH × Int):=HH fun n=>CU n d c b a
def bB [Ev] (d:A3) (c:AA) (b:Ne) (a:Bool):Option (List AH × Int):=HH fun n=>GT n d c b a
def bA [Ev] (d:A3) (c:AA) (b:Ne) (a:Bool):Option (List AH × Int):=HH fun n=>GR n d c b a
def W7 [Ev] (d:A3) (c:AA) (b:Ne) (a:Bool):Option (List AH × Int):=HH fun n=>FO n d c b a
def Ke [Ev] (t:AC) (p:Pattern) (c:AA) (e:AT) (m:AF) (a:Bool):Option (List AH × Int):=
 (JV t p c e m a).bind fun b=>
 if (!decide (b.2=0)) then
 some ([],b.2)
 else
 if b.1 then
 some ([],10)
 else
 (OO (A3.mk t e m a) c [] true).bind fun d=>
 some (d.1,d.2)
def J7 (a:Ne) (b:Ne):ca:=
 if (!decide ((a.length:Int)=(b.length:Int))) then
 some false
 else
 thenR (forR (ρ:=Bool) (fun (i0:Int) (_:Unit)=>
 (AM a i0).bind fun c=>
 (AM b i0).bind fun d=>
 if (!decide (c=d)) then
 some (.ret false)
 else
 some (.next ())) 0 (a.length:Int) ()) (fun _=>
 some true) (fun v0=>some v0)
def I3 (a:AH) (b:AH):ca:=
 (if (decide (a.Kind=b.Kind)) then ((J7 a.Path b.Path).bind fun c=>
 some (c)) else some false).bind fun d=>
 (if d then ((J7 a.Nodes b.Nodes).bind fun e=>
 some (e)) else some false).bind fun f=>
 some f
def NA (a:List AH) (b:List AH):ca:=
 if (!decide ((a.length:Int)=(b.length:Int))) then
 some false
 else
 thenR (forR (ρ:=Bool) (fun (i0:Int) (_:Unit)=>
 (AM a i0).bind fun c=>
 (AM b i0).bind fun d=>
 (I3 c d).bind fun e=>
 if (!e) then
 some (.ret false)
 else
 some (.next ())) 0 (a.length:Int) ()) (fun _=>
 some true) (fun v0=>some v0)
def Ig [Ev] (t:AC) (a:H8) (y:KO):ca:=
 (GJ).bind fun d=>
 (if (!d) then some true else ((Lw t a y).bind fun e=>
 some (!e))).bind fun f=>
 if f then
 (GJ).bind fun g=>
 some g
 else
 (E8 t a.P a.C y.H y.M y.Injective).bind fun b=>
 (Ke t a.P a.C y.H y.M y.Injective).bind fun c=>
 (NA b.1 c.1).bind fun h=>
 if ((!h)||(!decide (b.2=c.2))) then
 some false
 else
 (if (!decide (b.2=0)) then some true else ((GO t a.P a.C y.H y.M y.Injective b.1).bind fun i=>
 some (i))).bind fun j=>
 some j
end
end Go.Sf.Sc
