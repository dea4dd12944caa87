/- Lemmas. -/
import Derived.Test.YtmaobfbhdkafkaaGreatFns
import Derived.Test.YtmaobfbhdkafkaaGreatEv0
set_option maxRecDepth 100000
namespace Go.Sf.Sc
open Go Go.Sf
noncomputable def token_runx (N:Nat) (s_0:ByteArray) (ok:Int->Option Bool):Option Int:=
 thenR (whN N (ρ:=Int) (fun (s0:Int)=>
 (if (decide (s0<(s_0.size:Int)))=true then ((sidx s_0 s0).bind fun x14=>
 (ok x14).bind fun x15=>
 some (x15)) else some false).bind fun x16=>
 if x16=true then
 some (.next (w64 (s0+1)))
 else
 some (.brk s0)) 0) (fun s0=>
 some s0) (fun v0=>some v0)
theorem token_run_x (N:Nat) (s_0:ByteArray) (ok' ok:Int->Option Bool) (hok:∀ y0,Le (ok' y0) (ok y0)):Le (token_runx N s_0 ok') (token_run s_0 ok):=by
 unfold token_runx token_run
 with_reducible repeat' first|exact LR _|exact hok _ |refine LB ?_ fun _=>?_|refine LI ?_ ?_|refine LT ?_ (fun _=>?_) fun _=>?_|refine LA fun _ _=>?_|refine LF fun _ _=>?_|refine LW fun _=>?_
noncomputable def token_quotedx (N:Nat) (s_0:ByteArray):Option (Int × Int):=
 (sslc s_0 1 s_0.size).bind fun x6=>
 (token_runx N x6 token_quoted_1).bind fun x7=>
 (if (decide ((w64 (1+x7))=(s_0.size:Int)))=true then some true else ((sidx s_0 (w64 (1+x7))).bind fun x17=>
 some (!decide (x17=34)))).bind fun x19=>
 if x19=true then
 some (0,2)
 else
 if (decide (60<x7))=true then
 some (0,3)
 else
 some (w64 (x7+2),0)
theorem token_quoted_x (N:Nat) (s_0:ByteArray):Le (token_quotedx N s_0) (token_quoted s_0):=by
 unfold token_quotedx token_quoted
 with_reducible repeat' first|exact LR _|refine token_run_x N _ _ _ (fun _=>?_)|refine LB ?_ fun _=>?_|refine LI ?_ ?_|refine LT ?_ (fun _=>?_) fun _=>?_|refine LA fun _ _=>?_|refine LF fun _ _=>?_|refine LW fun _=>?_
noncomputable def token_nextx (N:Nat) (s_0:ByteArray):Option (Int × Int × Int):=
 (sidx s_0 0).bind fun x11=>
 (token_letter x11).bind fun x14=>
 if x14=true then
 (token_runx N s_0 token_part).bind fun x16=>
 if (decide (20<x16))=true then
 some (0,0,3)
 else
 some (1,x16,0)
 else
 (token_digit x11).bind fun x22=>
 if x22=true then
 (token_runx N s_0 token_digit).bind fun x24=>
 if (decide (9<x24))=true then
 some (0,0,3)
 else
 some (2,x24,0)
 else
 if (decide (x11=34))=true then
 (token_quotedx N s_0).bind fun x33=>
 some (3,x33.1,x33.2)
 else
 (token_pair s_0).bind fun x40=>
 if x40=true then
 some (4,2,0)
 else
 (strings_IndexByte (⟨#[123,125,40,41,91,93,44,59,58,61,43,45,42,60,62,33,38,124,46,63]⟩:ByteArray) x11).bind fun x43=>
 if (decide (0<=x43))=true then
 some (4,1,0)
 else
 some (0,0,2)
theorem token_next_x (N:Nat) (s_0:ByteArray):Le (token_nextx N s_0) (token_next s_0):=by
 unfold token_nextx token_next
 with_reducible repeat' first|exact LR _|refine token_quoted_x N _|refine token_run_x N _ _ _ (fun _=>?_)|refine LB ?_ fun _=>?_|refine LI ?_ ?_|refine LT ?_ (fun _=>?_) fun _=>?_|refine LA fun _ _=>?_|refine LF fun _ _=>?_|refine LW fun _=>?_
noncomputable def token_wholex (N:Nat) (t:Token):Option (ByteArray × Bool):=
 (if (decide (t.Kind=3))=true then
 (sapp (⟨#[34]⟩:ByteArray) t.Text).bind fun x14=>
 (sapp x14 (⟨#[34]⟩:ByteArray)).bind fun x15=>
 some x15
 else
 some t.Text).bind fun w1=>
 if (w1==(⟨#[]⟩:ByteArray))=true then
 some ((⟨#[]⟩:ByteArray),false)
 else
 (token_nextx N w1).bind fun x20=>
 some (w1,((decide (x20.2.2=0))&&(decide (x20.1=t.Kind)))&&(decide (x20.2.1=(w1.size:Int))))
theorem token_whole_x (N:Nat) (t:Token):Le (token_wholex N t) (token_whole t):=by
 unfold token_wholex token_whole
 with_reducible repeat' first|exact LR _|refine token_next_x N _|refine LB ?_ fun _=>?_|refine LI ?_ ?_|refine LT ?_ (fun _=>?_) fun _=>?_|refine LA fun _ _=>?_|refine LF fun _ _=>?_|refine LW fun _=>?_
noncomputable def token_IsNamex (N:Nat) (s_0:ByteArray):Option Bool:=
 (token_wholex N (Token.mk 1 s_0 0)).bind fun x8=>
 some x8.2
theorem token_IsName_x (N:Nat) (s_0:ByteArray):Le (token_IsNamex N s_0) (token_IsName s_0):=by
 unfold token_IsNamex token_IsName
 with_reducible repeat' first|exact LR _|refine token_whole_x N _|refine LB ?_ fun _=>?_|refine LI ?_ ?_|refine LT ?_ (fun _=>?_) fun _=>?_|refine LA fun _ _=>?_|refine LF fun _ _=>?_|refine LW fun _=>?_
noncomputable def slices_IndexFunc_NodeTypex (N:Nat) (s_0:List NodeType) (f:NodeType->Option Bool):Option Int:=
 thenR (forR (ρ:=Int) (fun (i0:Int) (_:Unit)=>
 (idx s_0 i0).bind fun x14=>
 (f x14).bind fun x16=>
 if x16=true then
 some (.ret i0)
 else
 some (.next ())) 0 (s_0.length:Int) ()) (fun _=>
 some (-1)) (fun v0=>some v0)
theorem slices_IndexFunc_NodeType_x (N:Nat) (s_0:List NodeType) (f' f:NodeType->Option Bool) (hf:∀ y0,Le (f' y0) (f y0)):Le (slices_IndexFunc_NodeTypex N s_0 f') (slices_IndexFunc_NodeType s_0 f):=by
 unfold slices_IndexFunc_NodeTypex slices_IndexFunc_NodeType
 with_reducible repeat' first|exact LR _|exact hf _ |refine LB ?_ fun _=>?_|refine LI ?_ ?_|refine LT ?_ (fun _=>?_) fun _=>?_|refine LA fun _ _=>?_|refine LF fun _ _=>?_|refine LW fun _=>?_
noncomputable def slices_ContainsFunc_NodeTypex (N:Nat) (s_0:List NodeType) (f:NodeType->Option Bool):Option Bool:=
 (slices_IndexFunc_NodeTypex N s_0 f).bind fun x7=>
 some (decide (0<=x7))
theorem slices_ContainsFunc_NodeType_x (N:Nat) (s_0:List NodeType) (f' f:NodeType->Option Bool) (hf:∀ y0,Le (f' y0) (f y0)):Le (slices_ContainsFunc_NodeTypex N s_0 f') (slices_ContainsFunc_NodeType s_0 f):=by
 unfold slices_ContainsFunc_NodeTypex slices_ContainsFunc_NodeType
 with_reducible repeat' first|exact LR _|exact hf _ |refine slices_IndexFunc_NodeType_x N _ _ _ (fun _=>?_)|refine LB ?_ fun _=>?_|refine LI ?_ ?_|refine LT ?_ (fun _=>?_) fun _=>?_|refine LA fun _ _=>?_|refine LF fun _ _=>?_|refine LW fun _=>?_
noncomputable def types_attrsFx (N:Nat):Nat->Types->Int->Option (List Attr)
 | 0,_,_=>none
 | n+1,t,a=>
  (idx t.Nodes a).bind fun x10=>
  (if (decide (0<=x10.Parent))=true then
  (types_attrsFx N n t x10.Parent).bind fun x17=>
  some x17
  else
  some []).bind fun w1=>
  (idx t.Nodes a).bind fun x22=>
  (appC w1 x22.Attrs).bind fun x25=>
  some x25
theorem types_attrsF_g (N:Nat):∀ n m:Nat,n<=m->(∀ (a0:Types) (a1:Int),Le (types_attrsFx N n a0 a1) (types_attrsF m a0 a1))
 | 0,_,_=>fun _ _=>Le.none _
 | n+1,0,h=>absurd h (by omega)
 | n+1,m+1,h=>by
  have ih:=types_attrsF_g N n m (by omega)
  intro a0 a1
  unfold types_attrsFx types_attrsF
  with_reducible repeat' first|exact LR _|exact ih _ _ |refine LB ?_ fun _=>?_|refine LI ?_ ?_|refine LT ?_ (fun _=>?_) fun _=>?_|refine LA fun _ _=>?_|refine LF fun _ _=>?_|refine LW fun _=>?_
theorem types_attrsF_x (N n m:Nat) (h:n<=m) (a0:Types) (a1:Int):Le (types_attrsFx N n a0 a1) (types_attrsF m a0 a1):=(types_attrsF_g N n m h) a0 a1
noncomputable def types_attrsx (N:Nat) (t:Types) (a:Int):Option (List Attr):=types_attrsFx N N t a
theorem types_attrs_x (N:Nat) (t:Types) (a:Int):Le (types_attrsx N t a) (types_attrs t a):=Le.lim N fun n hn=>types_attrsF_x N N n hn t a
noncomputable def slices_IndexFunc_Attrx (N:Nat) (s_0:List Attr) (f:Attr->Option Bool):Option Int:=
 thenR (forR (ρ:=Int) (fun (i0:Int) (_:Unit)=>
 (idx s_0 i0).bind fun x14=>
 (f x14).bind fun x16=>
 if x16=true then
 some (.ret i0)
 else
 some (.next ())) 0 (s_0.length:Int) ()) (fun _=>
 some (-1)) (fun v0=>some v0)
theorem slices_IndexFunc_Attr_x (N:Nat) (s_0:List Attr) (f' f:Attr->Option Bool) (hf:∀ y0,Le (f' y0) (f y0)):Le (slices_IndexFunc_Attrx N s_0 f') (slices_IndexFunc_Attr s_0 f):=by
 unfold slices_IndexFunc_Attrx slices_IndexFunc_Attr
 with_reducible repeat' first|exact LR _|exact hf _ |refine LB ?_ fun _=>?_|refine LI ?_ ?_|refine LT ?_ (fun _=>?_) fun _=>?_|refine LA fun _ _=>?_|refine LF fun _ _=>?_|refine LW fun _=>?_
noncomputable def slices_ContainsFunc_Attrx (N:Nat) (s_0:List Attr) (f:Attr->Option Bool):Option Bool:=
 (slices_IndexFunc_Attrx N s_0 f).bind fun x7=>
 some (decide (0<=x7))
theorem slices_ContainsFunc_Attr_x (N:Nat) (s_0:List Attr) (f' f:Attr->Option Bool) (hf:∀ y0,Le (f' y0) (f y0)):Le (slices_ContainsFunc_Attrx N s_0 f') (slices_ContainsFunc_Attr s_0 f):=by
 unfold slices_ContainsFunc_Attrx slices_ContainsFunc_Attr
 with_reducible repeat' first|exact LR _|exact hf _ |refine slices_IndexFunc_Attr_x N _ _ _ (fun _=>?_)|refine LB ?_ fun _=>?_|refine LI ?_ ?_|refine LT ?_ (fun _=>?_) fun _=>?_|refine LA fun _ _=>?_|refine LF fun _ _=>?_|refine LW fun _=>?_
noncomputable def types_namesx (N:Nat) (l:List ByteArray):Option Int:=
 if (decide (20<(l.length:Int)))=true then
 some 3
 else
 thenR (forR (ρ:=Int) (fun (i0:Int) (_:Unit)=>
 (idx l i0).bind fun x13=>
 (token_IsNamex N x13).bind fun x17=>
 if (!x17)=true then
 some (.ret 2)
 else
 (slc l 0 i0).bind fun x22=>
 (slices_Contains_string x22 x13).bind fun x24=>
 if x24=true then
 some (.ret 5)
 else
 some (.next ())) 0 (l.length:Int) ()) (fun _=>
 some 0) (fun v0=>some v0)
theorem types_names_x (N:Nat) (l:List ByteArray):Le (types_namesx N l) (types_names l):=by
 unfold types_namesx types_names
 with_reducible repeat' first|exact LR _|refine token_IsName_x N _|refine LB ?_ fun _=>?_|refine LI ?_ ?_|refine LT ?_ (fun _=>?_) fun _=>?_|refine LA fun _ _=>?_|refine LF fun _ _=>?_|refine LW fun _=>?_
noncomputable def types_attributex (N:Nat) (x_0:Attr) (before:List Attr):Option Int:=
 (token_IsNamex N x_0.Name).bind fun x10=>
 if (!x10)=true then
 some 2
 else
 (slices_ContainsFunc_Attrx N before (fun y0=>types_attribute_1 y0 x_0)).bind fun x15=>
 if x15=true then
 some 5
 else
 (types_namesx N x_0.Names).bind fun x18=>
 if (!decide (x18=0))=true then
 some x18
 else
 (if (decide (0<(x_0.Names.length:Int)))=true then
 some ((decide (x_0.Low=0))&&(decide (x_0.High=(w64 ((x_0.Names.length:Int) - 1)))))
 else
 some (((decide ((-1000000)<=x_0.Low))&&(decide (x_0.Low<=x_0.High)))&&(decide (x_0.High<=1000000)))).bind fun w1=>
 if (!w1)=true then
 some 6
 else
 some 0
theorem types_attribute_x (N:Nat) (x_0:Attr) (before:List Attr):Le (types_attributex N x_0 before) (types_attribute x_0 before):=by
 unfold types_attributex types_attribute
 with_reducible repeat' first|exact LR _|refine slices_ContainsFunc_Attr_x N _ _ _ (fun _=>?_)|refine token_IsName_x N _|refine types_names_x N _|refine LB ?_ fun _=>?_|refine LI ?_ ?_|refine LT ?_ (fun _=>?_) fun _=>?_|refine LA fun _ _=>?_|refine LF fun _ _=>?_|refine LW fun _=>?_
noncomputable def types_nodex (N:Nat) (t:Types) (i_1:Int):Option Int:=
 (idx t.Nodes i_1).bind fun x12=>
 (token_IsNamex N x12.Name).bind fun x17=>
 if (!x17)=true then
 some 2
 else
 (slc t.Nodes 0 i_1).bind fun x23=>
 (slices_ContainsFunc_NodeTypex N x23 (fun y0=>types_node_1 y0 x12)).bind fun x25=>
 if x25=true then
 some 5
 else
 if ((decide (x12.Parent<(-1)))||(decide (i_1<=x12.Parent)))=true then
 some 6
 else
 if (decide (4<(x12.Attrs.length:Int)))=true then
 some 3
 else
 (types_attrsx N t i_1).bind fun x43=>
 if (decide (8<(x43.length:Int)))=true then
 some 3
 else
 thenR (forR (ρ:=Int) (fun (i1:Int) (_:Unit)=>
 (idx x43 i1).bind fun x61=>
 (slc x43 0 i1).bind fun x65=>
 (types_attributex N x61 x65).bind fun x66=>
 if (!decide (x66=0))=true then
 some (.ret x66)
 else
 some (.next ())) (w64 ((x43.length:Int) - (x12.Attrs.length:Int))) (x43.length:Int) ()) (fun _=>
 some 0) (fun v1=>some v1)
theorem types_node_x (N:Nat) (t:Types) (i_1:Int):Le (types_nodex N t i_1) (types_node t i_1):=by
 unfold types_nodex types_node
 with_reducible repeat' first|exact LR _|refine slices_ContainsFunc_NodeType_x N _ _ _ (fun _=>?_)|refine token_IsName_x N _|refine types_attribute_x N _ _|refine types_attrs_x N _ _|refine LB ?_ fun _=>?_|refine LI ?_ ?_|refine LT ?_ (fun _=>?_) fun _=>?_|refine LA fun _ _=>?_|refine LF fun _ _=>?_|refine LW fun _=>?_
noncomputable def slices_IndexFunc_EdgeTypex (N:Nat) (s_0:List EdgeType) (f:EdgeType->Option Bool):Option Int:=
 thenR (forR (ρ:=Int) (fun (i0:Int) (_:Unit)=>
 (idx s_0 i0).bind fun x14=>
 (f x14).bind fun x16=>
 if x16=true then
 some (.ret i0)
 else
 some (.next ())) 0 (s_0.length:Int) ()) (fun _=>
 some (-1)) (fun v0=>some v0)
theorem slices_IndexFunc_EdgeType_x (N:Nat) (s_0:List EdgeType) (f' f:EdgeType->Option Bool) (hf:∀ y0,Le (f' y0) (f y0)):Le (slices_IndexFunc_EdgeTypex N s_0 f') (slices_IndexFunc_EdgeType s_0 f):=by
 unfold slices_IndexFunc_EdgeTypex slices_IndexFunc_EdgeType
 with_reducible repeat' first|exact LR _|exact hf _ |refine LB ?_ fun _=>?_|refine LI ?_ ?_|refine LT ?_ (fun _=>?_) fun _=>?_|refine LA fun _ _=>?_|refine LF fun _ _=>?_|refine LW fun _=>?_
noncomputable def slices_ContainsFunc_EdgeTypex (N:Nat) (s_0:List EdgeType) (f:EdgeType->Option Bool):Option Bool:=
 (slices_IndexFunc_EdgeTypex N s_0 f).bind fun x7=>
 some (decide (0<=x7))
theorem slices_ContainsFunc_EdgeType_x (N:Nat) (s_0:List EdgeType) (f' f:EdgeType->Option Bool) (hf:∀ y0,Le (f' y0) (f y0)):Le (slices_ContainsFunc_EdgeTypex N s_0 f') (slices_ContainsFunc_EdgeType s_0 f):=by
 unfold slices_ContainsFunc_EdgeTypex slices_ContainsFunc_EdgeType
 with_reducible repeat' first|exact LR _|exact hf _ |refine slices_IndexFunc_EdgeType_x N _ _ _ (fun _=>?_)|refine LB ?_ fun _=>?_|refine LI ?_ ?_|refine LT ?_ (fun _=>?_) fun _=>?_|refine LA fun _ _=>?_|refine LF fun _ _=>?_|refine LW fun _=>?_
noncomputable def types_edgex (N:Nat) (t:Types) (i_1:Int):Option Int:=
 (idx t.Edges i_1).bind fun x10=>
 (token_IsNamex N x10.Name).bind fun x16=>
 if (!x16)=true then
 some 2
 else
 (slc t.Edges 0 i_1).bind fun x22=>
 (slices_ContainsFunc_EdgeTypex N x22 (fun y0=>types_edge_2 y0 x10)).bind fun x24=>
 if x24=true then
 some 5
 else
 (types_edge_1 x10.From t).bind fun x29=>
 (if (!x29)=true then some true else ((types_edge_1 x10.To t).bind fun x35=>
 some (!x35))).bind fun x37=>
 (if x37=true then
 some x37
 else
 (types_bounded x10.OutLow x10.OutHigh).bind fun x42=>
 (if (!x42)=true then some true else ((types_bounded x10.InLow x10.InHigh).bind fun x49=>
 some (!x49))).bind fun x51=>
 some x51).bind fun w1=>
 if w1=true then
 some 6
 else
 some 0
theorem types_edge_x (N:Nat) (t:Types) (i_1:Int):Le (types_edgex N t i_1) (types_edge t i_1):=by
 unfold types_edgex types_edge
 with_reducible repeat' first|exact LR _|refine slices_ContainsFunc_EdgeType_x N _ _ _ (fun _=>?_)|refine token_IsName_x N _|refine LB ?_ fun _=>?_|refine LI ?_ ?_|refine LT ?_ (fun _=>?_) fun _=>?_|refine LA fun _ _=>?_|refine LF fun _ _=>?_|refine LW fun _=>?_
noncomputable def types_Validx (N:Nat) (t:Types):Option (ByteArray × Int):=
 if (decide ((t.Nodes.length:Int)=0))=true then
 some ((⟨#[]⟩:ByteArray),7)
 else
 if ((decide (12<(t.Nodes.length:Int)))||(decide (20<(t.Edges.length:Int))))=true then
 some ((⟨#[]⟩:ByteArray),3)
 else
 thenR (forR (ρ:=(ByteArray × Int)) (fun (i1:Int) (_:Unit)=>
 (idx t.Nodes i1).bind fun x32=>
 (types_nodex N t i1).bind fun x36=>
 if (!decide (x36=0))=true then
 some (.ret (x32.Name,x36))
 else
 some (.next ())) 0 (t.Nodes.length:Int) ()) (fun _=>
 thenR (forR (ρ:=(ByteArray × Int)) (fun (i3:Int) (_:Unit)=>
 (idx t.Edges i3).bind fun x49=>
 (types_edgex N t i3).bind fun x53=>
 if (!decide (x53=0))=true then
 some (.ret (x49.Name,x53))
 else
 some (.next ())) 0 (t.Edges.length:Int) ()) (fun _=>
 some ((⟨#[]⟩:ByteArray),0)) (fun v3=>some v3)) (fun v1=>some v1)
theorem types_Valid_x (N:Nat) (t:Types):Le (types_Validx N t) (types_Valid t):=by
 unfold types_Validx types_Valid
 with_reducible repeat' first|exact LR _|refine types_edge_x N _ _|refine types_node_x N _ _|refine LB ?_ fun _=>?_|refine LI ?_ ?_|refine LT ?_ (fun _=>?_) fun _=>?_|refine LA fun _ _=>?_|refine LF fun _ _=>?_|refine LW fun _=>?_
noncomputable def slices_IndexFunc_intx (N:Nat) (s_0:List Int) (f:Int->Option Bool):Option Int:=
 thenR (forR (ρ:=Int) (fun (i0:Int) (_:Unit)=>
 (idx s_0 i0).bind fun x14=>
 (f x14).bind fun x16=>
 if x16=true then
 some (.ret i0)
 else
 some (.next ())) 0 (s_0.length:Int) ()) (fun _=>
 some (-1)) (fun v0=>some v0)
theorem slices_IndexFunc_int_x (N:Nat) (s_0:List Int) (f' f:Int->Option Bool) (hf:∀ y0,Le (f' y0) (f y0)):Le (slices_IndexFunc_intx N s_0 f') (slices_IndexFunc_int s_0 f):=by
 unfold slices_IndexFunc_intx slices_IndexFunc_int
 with_reducible repeat' first|exact LR _|exact hf _ |refine LB ?_ fun _=>?_|refine LI ?_ ?_|refine LT ?_ (fun _=>?_) fun _=>?_|refine LA fun _ _=>?_|refine LF fun _ _=>?_|refine LW fun _=>?_
noncomputable def slices_ContainsFunc_intx (N:Nat) (s_0:List Int) (f:Int->Option Bool):Option Bool:=
 (slices_IndexFunc_intx N s_0 f).bind fun x7=>
 some (decide (0<=x7))
theorem slices_ContainsFunc_int_x (N:Nat) (s_0:List Int) (f' f:Int->Option Bool) (hf:∀ y0,Le (f' y0) (f y0)):Le (slices_ContainsFunc_intx N s_0 f') (slices_ContainsFunc_int s_0 f):=by
 unfold slices_ContainsFunc_intx slices_ContainsFunc_int
 with_reducible repeat' first|exact LR _|exact hf _ |refine slices_IndexFunc_int_x N _ _ _ (fun _=>?_)|refine LB ?_ fun _=>?_|refine LI ?_ ?_|refine LT ?_ (fun _=>?_) fun _=>?_|refine LA fun _ _=>?_|refine LF fun _ _=>?_|refine LW fun _=>?_
noncomputable def slices_IndexFunc_Edgex (N:Nat) (s_0:List Edge) (f:Edge->Option Bool):Option Int:=
 thenR (forR (ρ:=Int) (fun (i0:Int) (_:Unit)=>
 (idx s_0 i0).bind fun x14=>
 (f x14).bind fun x16=>
 if x16=true then
 some (.ret i0)
 else
 some (.next ())) 0 (s_0.length:Int) ()) (fun _=>
 some (-1)) (fun v0=>some v0)
theorem slices_IndexFunc_Edge_x (N:Nat) (s_0:List Edge) (f' f:Edge->Option Bool) (hf:∀ y0,Le (f' y0) (f y0)):Le (slices_IndexFunc_Edgex N s_0 f') (slices_IndexFunc_Edge s_0 f):=by
 unfold slices_IndexFunc_Edgex slices_IndexFunc_Edge
 with_reducible repeat' first|exact LR _|exact hf _ |refine LB ?_ fun _=>?_|refine LI ?_ ?_|refine LT ?_ (fun _=>?_) fun _=>?_|refine LA fun _ _=>?_|refine LF fun _ _=>?_|refine LW fun _=>?_
noncomputable def slices_ContainsFunc_Edgex (N:Nat) (s_0:List Edge) (f:Edge->Option Bool):Option Bool:=
 (slices_IndexFunc_Edgex N s_0 f).bind fun x7=>
 some (decide (0<=x7))
theorem slices_ContainsFunc_Edge_x (N:Nat) (s_0:List Edge) (f' f:Edge->Option Bool) (hf:∀ y0,Le (f' y0) (f y0)):Le (slices_ContainsFunc_Edgex N s_0 f') (slices_ContainsFunc_Edge s_0 f):=by
 unfold slices_ContainsFunc_Edgex slices_ContainsFunc_Edge
 with_reducible repeat' first|exact LR _|exact hf _ |refine slices_IndexFunc_Edge_x N _ _ _ (fun _=>?_)|refine LB ?_ fun _=>?_|refine LI ?_ ?_|refine LT ?_ (fun _=>?_) fun _=>?_|refine LA fun _ _=>?_|refine LF fun _ _=>?_|refine LW fun _=>?_
noncomputable def graph_Validx (N:Nat) (g:Graph):Option Int:=
 if ((decide (40<(g.Nodes.length:Int)))||(decide (80<(g.Edges.length:Int))))=true then
 some 3
 else
 (slices_ContainsFunc_intx N g.Nodes graph_Valid_1).bind fun x15=>
 if x15=true then
 some 6
 else
 (slices_ContainsFunc_Edgex N g.Edges (fun y0=>graph_Valid_2 y0 g)).bind fun x19=>
 if x19=true then
 some 6
 else
 some 0
theorem graph_Valid_x (N:Nat) (g:Graph):Le (graph_Validx N g) (graph_Valid g):=by
 unfold graph_Validx graph_Valid
 with_reducible repeat' first|exact LR _|refine slices_ContainsFunc_Edge_x N _ _ _ (fun _=>?_)|refine slices_ContainsFunc_int_x N _ _ _ (fun _=>?_)|refine LB ?_ fun _=>?_|refine LI ?_ ?_|refine LT ?_ (fun _=>?_) fun _=>?_|refine LA fun _ _=>?_|refine LF fun _ _=>?_|refine LW fun _=>?_
noncomputable def types_givenx (N:Nat) (t:Types) (l:List Int):Option Int:=
 (types_Validx N t).bind fun x9=>
 if (!decide (x9.2=0))=true then
 some x9.2
 else
 (slices_ContainsFunc_intx N l (fun y0=>types_given_1 y0 t)).bind fun x17=>
 if x17=true then
 some 6
 else
 some 0
theorem types_given_x (N:Nat) (t:Types) (l:List Int):Le (types_givenx N t l) (types_given t l):=by
 unfold types_givenx types_given
 with_reducible repeat' first|exact LR _|refine slices_ContainsFunc_int_x N _ _ _ (fun _=>?_)|refine types_Valid_x N _|refine LB ?_ fun _=>?_|refine LI ?_ ?_|refine LT ?_ (fun _=>?_) fun _=>?_|refine LA fun _ _=>?_|refine LF fun _ _=>?_|refine LW fun _=>?_
noncomputable def types_Attrsx (N:Nat) (t:Types) (a:Int):Option (List Attr × Int):=
 (types_givenx N t [a]).bind fun x12=>
 if (!decide (x12=0))=true then
 some ([],x12)
 else
 (types_attrsx N t a).bind fun x18=>
 (forA (fun (i0:Int) (s0:List Attr)=>
 (idx s0 i0).bind fun x28=>
 (slices_Clone_string x28.Names).bind fun x31=>
 (idx s0 i0).bind fun x32=>
 some (setE s0 i0 (Attr.mk x32.Name x32.Low x32.High x31))) 0 (x18.length:Int) x18).bind fun s0=>
 some (s0,0)
theorem types_Attrs_x (N:Nat) (t:Types) (a:Int):Le (types_Attrsx N t a) (types_Attrs t a):=by
 unfold types_Attrsx types_Attrs
 with_reducible repeat' first|exact LR _|refine types_attrs_x N _ _|refine types_given_x N _ _|refine LB ?_ fun _=>?_|refine LI ?_ ?_|refine LT ?_ (fun _=>?_) fun _=>?_|refine LA fun _ _=>?_|refine LF fun _ _=>?_|refine LW fun _=>?_
noncomputable def attribute_attrx (N:Nat) (t:Types) (p:Pattern) (s_2:Slot):Option (Attr × Bool):=
 (attribute_within s_2.Node 0 (w64 ((p.Graph.Nodes.length:Int) - 1))).bind fun x17=>
 if (!x17)=true then
 some (Attr.mk (⟨#[]⟩:ByteArray) 0 0 [],false)
 else
 (idx p.Graph.Nodes s_2.Node).bind fun x27=>
 (types_Attrsx N t x27).bind fun x29=>
 (attribute_within s_2.Attr 0 (w64 ((x29.1.length:Int) - 1))).bind fun x37=>
 if (!x37)=true then
 some (Attr.mk (⟨#[]⟩:ByteArray) 0 0 [],false)
 else
 (idx x29.1 s_2.Attr).bind fun x43=>
 some (x43,true)
theorem attribute_attr_x (N:Nat) (t:Types) (p:Pattern) (s_2:Slot):Le (attribute_attrx N t p s_2) (attribute_attr t p s_2):=by
 unfold attribute_attrx attribute_attr
 with_reducible repeat' first|exact LR _|refine types_Attrs_x N _ _|refine LB ?_ fun _=>?_|refine LI ?_ ?_|refine LT ?_ (fun _=>?_) fun _=>?_|refine LA fun _ _=>?_|refine LF fun _ _=>?_|refine LW fun _=>?_
noncomputable def attribute_Validx (N:Nat) (t:Types) (p:Pattern):Option Int:=
 (types_Validx N t).bind fun x16=>
 if (!decide (x16.2=0))=true then
 some x16.2
 else
 (graph_Validx N p.Graph).bind fun x24=>
 if (!decide (x24=0))=true then
 some x24
 else
 (slices_ContainsFunc_intx N p.Graph.Nodes (fun y0=>attribute_Valid_1 y0 t)).bind fun x32=>
 (if x32=true then some true else ((slices_ContainsFunc_Edgex N p.Graph.Edges (fun y0=>attribute_Valid_2 y0 t)).bind fun x38=>
 some (x38))).bind fun x39=>
 if x39=true then
 some 13
 else
 (attribute_within p.Vars 0 12).bind fun x42=>
 if (!x42)=true then
 some 6
 else
 if ((decide (10<(p.Slots.length:Int)))||(decide (10<(p.Tests.length:Int))))=true then
 some 3
 else
 (mkz p.Vars false).bind fun x56=>
 thenR (forR (ρ:=Int) (fun (i0:Int) (s0:List Bool)=>
 (idx p.Slots i0).bind fun x62=>
 (attribute_attrx N t p x62).bind fun x68=>
 (if (!x68.2)=true then some true else ((attribute_within x62.Term.Var (-1) (w64 (p.Vars - 1))).bind fun x80=>
 some (!x80))).bind fun x82=>
 (if x82=true then some true else ((attribute_within x62.Term.Add (-1000000) 1000000).bind fun x87=>
 some (!x87))).bind fun x89=>
 if x89=true then
 some (.ret 6)
 else
 if (decide (0<=x62.Term.Var))=true then
 (idx s0 x62.Term.Var).bind fun x98=>
 some (.next (setE s0 x62.Term.Var true))
 else
 some (.next s0)) 0 (p.Slots.length:Int) x56) (fun s0=>
 (difference_Valid p.Vars p.Tests).bind fun x104=>
 if (!decide (x104=0))=true then
 some x104
 else
 (slices_Contains_bool s0 false).bind fun x109=>
 if x109=true then
 some 9
 else
 some 0) (fun v0=>some v0)
theorem attribute_Valid_x (N:Nat) (t:Types) (p:Pattern):Le (attribute_Validx N t p) (attribute_Valid t p):=by
 unfold attribute_Validx attribute_Valid
 with_reducible repeat' first|exact LR _|refine attribute_attr_x N _ _ _|refine graph_Valid_x N _|refine slices_ContainsFunc_Edge_x N _ _ _ (fun _=>?_)|refine slices_ContainsFunc_int_x N _ _ _ (fun _=>?_)|refine types_Valid_x N _|refine LB ?_ fun _=>?_|refine LI ?_ ?_|refine LT ?_ (fun _=>?_) fun _=>?_|refine LA fun _ _=>?_|refine LF fun _ _=>?_|refine LW fun _=>?_
noncomputable def slices_IndexFunc_Conditionx (N:Nat) (s_0:List Condition) (f:Condition->Option Bool):Option Int:=
 thenR (forR (ρ:=Int) (fun (i0:Int) (_:Unit)=>
 (idx s_0 i0).bind fun x14=>
 (f x14).bind fun x16=>
 if x16=true then
 some (.ret i0)
 else
 some (.next ())) 0 (s_0.length:Int) ()) (fun _=>
 some (-1)) (fun v0=>some v0)
theorem slices_IndexFunc_Condition_x (N:Nat) (s_0:List Condition) (f' f:Condition->Option Bool) (hf:∀ y0,Le (f' y0) (f y0)):Le (slices_IndexFunc_Conditionx N s_0 f') (slices_IndexFunc_Condition s_0 f):=by
 unfold slices_IndexFunc_Conditionx slices_IndexFunc_Condition
 with_reducible repeat' first|exact LR _|exact hf _ |refine LB ?_ fun _=>?_|refine LI ?_ ?_|refine LT ?_ (fun _=>?_) fun _=>?_|refine LA fun _ _=>?_|refine LF fun _ _=>?_|refine LW fun _=>?_
noncomputable def slices_ContainsFunc_Conditionx (N:Nat) (s_0:List Condition) (f:Condition->Option Bool):Option Bool:=
 (slices_IndexFunc_Conditionx N s_0 f).bind fun x7=>
 some (decide (0<=x7))
theorem slices_ContainsFunc_Condition_x (N:Nat) (s_0:List Condition) (f' f:Condition->Option Bool) (hf:∀ y0,Le (f' y0) (f y0)):Le (slices_ContainsFunc_Conditionx N s_0 f') (slices_ContainsFunc_Condition s_0 f):=by
 unfold slices_ContainsFunc_Conditionx slices_ContainsFunc_Condition
 with_reducible repeat' first|exact LR _|exact hf _ |refine slices_IndexFunc_Condition_x N _ _ _ (fun _=>?_)|refine LB ?_ fun _=>?_|refine LI ?_ ?_|refine LT ?_ (fun _=>?_) fun _=>?_|refine LA fun _ _=>?_|refine LF fun _ _=>?_|refine LW fun _=>?_
mutual
noncomputable def condition_wellFormedFx (N:Nat):Nat->Condition->Option Bool
 | 0,_=>none
 | n+1,c=>
  (if (decide (c.Kind=1))=true then
  (if (decide ((c.Kids.length:Int)=0))=true then ((condition_bare c).bind fun x16=>
  some (x16)) else some false).bind fun x17=>
  some x17
  else
  if (decide (c.Kind=2))=true then
  (if (decide ((c.Kids.length:Int)=1))=true then ((condition_bare c).bind fun x24=>
  some (x24)) else some false).bind fun x25=>
  some x25
  else
  if (decide (c.Kind=3))=true then
  if (decide (c.Kind=3))=true then
  (if (decide (1<=(c.Kids.length:Int)))=true then ((condition_bare c).bind fun x33=>
  some (x33)) else some false).bind fun x34=>
  some x34
  else
  if (decide (c.Kind=5))=true then
  some (decide ((c.Kids.length:Int)=1))
  else
  some false
  else
  if (decide (c.Kind=4))=true then
  (if (decide (1<=(c.Kids.length:Int)))=true then ((condition_bare c).bind fun x33=>
  some (x33)) else some false).bind fun x34=>
  some x34
  else
  if (decide (c.Kind=5))=true then
  some (decide ((c.Kids.length:Int)=1))
  else
  some false).bind fun w1=>
  (if w1=true then ((slices_ContainsFunc_Conditionx N c.Kids (condition_wellFormed_1Fx N n)).bind fun x43=>
  some (!x43)) else some false).bind fun x45=>
  some x45
noncomputable def condition_wellFormed_1Fx (N:Nat):Nat->Condition->Option Bool
 | 0,_=>none
 | n+1,k=>
  (condition_wellFormedFx N n k).bind fun x4=>
  some (!x4)
end
theorem condition_wellFormedF_g (N:Nat):∀ n m:Nat,n<=m->(∀ (a0:Condition),Le (condition_wellFormedFx N n a0) (condition_wellFormedF m a0))∧(∀ (a0:Condition),Le (condition_wellFormed_1Fx N n a0) (condition_wellFormed_1F m a0))
 | 0,_,_=>⟨fun _=>Le.none _,fun _=>Le.none _⟩
 | n+1,0,h=>absurd h (by omega)
 | n+1,m+1,h=>by
  have ih:=condition_wellFormedF_g N n m (by omega)
  refine ⟨?_,?_⟩
  ·intro a0
   unfold condition_wellFormedFx condition_wellFormedF
   with_reducible repeat' first|exact LR _|exact ih.1 _ |exact ih.2 _ |refine slices_ContainsFunc_Condition_x N _ _ _ (fun _=>?_)|refine LB ?_ fun _=>?_|refine LI ?_ ?_|refine LT ?_ (fun _=>?_) fun _=>?_|refine LA fun _ _=>?_|refine LF fun _ _=>?_|refine LW fun _=>?_
  ·intro a0
   unfold condition_wellFormed_1Fx condition_wellFormed_1F
   with_reducible repeat' first|exact LR _|exact ih.1 _ |exact ih.2 _ |refine LB ?_ fun _=>?_|refine LI ?_ ?_|refine LT ?_ (fun _=>?_) fun _=>?_|refine LA fun _ _=>?_|refine LF fun _ _=>?_|refine LW fun _=>?_
theorem condition_wellFormedF_x (N n m:Nat) (h:n<=m) (a0:Condition):Le (condition_wellFormedFx N n a0) (condition_wellFormedF m a0):=(condition_wellFormedF_g N n m h).1 a0
noncomputable def condition_wellFormedx (N:Nat) (c:Condition):Option Bool:=condition_wellFormedFx N N c
theorem condition_wellFormed_x (N:Nat) (c:Condition):Le (condition_wellFormedx N c) (condition_wellFormed c):=Le.lim N fun n hn=>condition_wellFormedF_x N N n hn c
noncomputable def condition_measureFx (N:Nat):Nat->Condition->Option (Int × Int)
 | 0,_=>none
 | n+1,c=>
  (forA (fun (i0:Int) (s0:Int × Int)=>
  (idx c.Kids i0).bind fun x15=>
  (condition_measureFx N n x15).bind fun x19=>
  some (w64 (s0.1+x19.1),max s0.2 x19.2)) 0 (c.Kids.length:Int) (1,0)).bind fun s0=>
  (if (decide (c.Kind=5))=true then
  some (w64 (s0.2+1))
  else
  some s0.2).bind fun w1=>
  some (s0.1,w1)
theorem condition_measureF_g (N:Nat):∀ n m:Nat,n<=m->(∀ (a0:Condition),Le (condition_measureFx N n a0) (condition_measureF m a0))
 | 0,_,_=>fun _=>Le.none _
 | n+1,0,h=>absurd h (by omega)
 | n+1,m+1,h=>by
  have ih:=condition_measureF_g N n m (by omega)
  intro a0
  unfold condition_measureFx condition_measureF
  with_reducible repeat' first|exact LR _|exact ih _ |refine LB ?_ fun _=>?_|refine LI ?_ ?_|refine LT ?_ (fun _=>?_) fun _=>?_|refine LA fun _ _=>?_|refine LF fun _ _=>?_|refine LW fun _=>?_
theorem condition_measureF_x (N n m:Nat) (h:n<=m) (a0:Condition):Le (condition_measureFx N n a0) (condition_measureF m a0):=(condition_measureF_g N n m h) a0
noncomputable def condition_measurex (N:Nat) (c:Condition):Option (Int × Int):=condition_measureFx N N c
theorem condition_measure_x (N:Nat) (c:Condition):Le (condition_measurex N c) (condition_measure c):=Le.lim N fun n hn=>condition_measureF_x N N n hn c
noncomputable def condition_shapex (N:Nat) (c:Condition):Option Int:=
 (condition_wellFormedx N c).bind fun x6=>
 if (!x6)=true then
 some 1
 else
 (condition_measurex N c).bind fun x10=>
 if ((decide (12<x10.1))||(decide (3<x10.2)))=true then
 some 3
 else
 some 0
theorem condition_shape_x (N:Nat) (c:Condition):Le (condition_shapex N c) (condition_shape c):=by
 unfold condition_shapex condition_shape
 with_reducible repeat' first|exact LR _|refine condition_measure_x N _|refine condition_wellFormed_x N _|refine LB ?_ fun _=>?_|refine LI ?_ ?_|refine LT ?_ (fun _=>?_) fun _=>?_|refine LA fun _ _=>?_|refine LF fun _ _=>?_|refine LW fun _=>?_
noncomputable def slices_IndexFunc_Slotx (N:Nat) (s_0:List Slot) (f:Slot->Option Bool):Option Int:=
 thenR (forR (ρ:=Int) (fun (i0:Int) (_:Unit)=>
 (idx s_0 i0).bind fun x14=>
 (f x14).bind fun x16=>
 if x16=true then
 some (.ret i0)
 else
 some (.next ())) 0 (s_0.length:Int) ()) (fun _=>
 some (-1)) (fun v0=>some v0)
theorem slices_IndexFunc_Slot_x (N:Nat) (s_0:List Slot) (f' f:Slot->Option Bool) (hf:∀ y0,Le (f' y0) (f y0)):Le (slices_IndexFunc_Slotx N s_0 f') (slices_IndexFunc_Slot s_0 f):=by
 unfold slices_IndexFunc_Slotx slices_IndexFunc_Slot
 with_reducible repeat' first|exact LR _|exact hf _ |refine LB ?_ fun _=>?_|refine LI ?_ ?_|refine LT ?_ (fun _=>?_) fun _=>?_|refine LA fun _ _=>?_|refine LF fun _ _=>?_|refine LW fun _=>?_
noncomputable def slices_ContainsFunc_Slotx (N:Nat) (s_0:List Slot) (f:Slot->Option Bool):Option Bool:=
 (slices_IndexFunc_Slotx N s_0 f).bind fun x7=>
 some (decide (0<=x7))
theorem slices_ContainsFunc_Slot_x (N:Nat) (s_0:List Slot) (f' f:Slot->Option Bool) (hf:∀ y0,Le (f' y0) (f y0)):Le (slices_ContainsFunc_Slotx N s_0 f') (slices_ContainsFunc_Slot s_0 f):=by
 unfold slices_ContainsFunc_Slotx slices_ContainsFunc_Slot
 with_reducible repeat' first|exact LR _|exact hf _ |refine slices_IndexFunc_Slot_x N _ _ _ (fun _=>?_)|refine LB ?_ fun _=>?_|refine LI ?_ ?_|refine LT ?_ (fun _=>?_) fun _=>?_|refine LA fun _ _=>?_|refine LF fun _ _=>?_|refine LW fun _=>?_
noncomputable def condition_patternx (N:Nat) (t:Types) (q:Pattern) (outer:Int):Option Int:=
 (attribute_Validx N t q).bind fun x11=>
 if (!decide (x11=9))=true then
 some x11
 else
 thenR (whN N (ρ:=Int) (fun (s0:Int)=>
 if (decide (s0<q.Vars))=true then
 (slices_ContainsFunc_Slotx N q.Slots (fun y0=>condition_pattern_1 y0 s0)).bind fun x25=>
 if (!x25)=true then
 some (.ret x11)
 else
 some (.next (w64 (s0+1)))
 else
 some (.brk s0)) outer) (fun s0=>
 some 0) (fun v0=>some v0)
theorem condition_pattern_x (N:Nat) (t:Types) (q:Pattern) (outer:Int):Le (condition_patternx N t q outer) (condition_pattern t q outer):=by
 unfold condition_patternx condition_pattern
 with_reducible repeat' first|exact LR _|refine attribute_Valid_x N _ _|refine slices_ContainsFunc_Slot_x N _ _ _ (fun _=>?_)|refine LB ?_ fun _=>?_|refine LI ?_ ?_|refine LT ?_ (fun _=>?_) fun _=>?_|refine LA fun _ _=>?_|refine LF fun _ _=>?_|refine LW fun _=>?_
noncomputable def morphism_Validx (N:Nat) (a:Graph) (b:Graph) (m:Morphism):Option Int:=
 (graph_Validx N a).bind fun x16=>
 if (!decide (x16=0))=true then
 some x16
 else
 (graph_Validx N b).bind fun x21=>
 if (!decide (x21=0))=true then
 some x21
 else
 if ((!decide ((m.Nodes.length:Int)=(a.Nodes.length:Int)))||(!decide ((m.Edges.length:Int)=(a.Edges.length:Int))))=true then
 some 20
 else
 thenR (forR (ρ:=Int) (fun (i0:Int) (_:Unit)=>
 (idx m.Nodes i0).bind fun x47=>
 if ((decide (x47<0))||(decide ((b.Nodes.length:Int)<=x47)))=true then
 some (.ret 6)
 else
 (idx b.Nodes x47).bind fun x61=>
 (idx a.Nodes i0).bind fun x66=>
 if (!decide (x61=x66))=true then
 some (.ret 13)
 else
 some (.next ())) 0 (m.Nodes.length:Int) ()) (fun _=>
 thenR (forR (ρ:=Int) (fun (i2:Int) (_:Unit)=>
 (idx m.Edges i2).bind fun x76=>
 if ((decide (x76<0))||(decide ((b.Edges.length:Int)<=x76)))=true then
 some (.ret 6)
 else
 (idx a.Edges i2).bind fun x90=>
 (idx b.Edges x76).bind fun x95=>
 if (!decide (x90.Type'=x95.Type'))=true then
 some (.ret 13)
 else
 (idx m.Nodes x90.From).bind fun x106=>
 (if (!decide (x106=x95.From))=true then some true else ((idx m.Nodes x90.To).bind fun x116=>
 some (!decide (x116=x95.To)))).bind fun x121=>
 if x121=true then
 some (.ret 11)
 else
 some (.next ())) 0 (m.Edges.length:Int) ()) (fun _=>
 some 0) (fun v2=>some v2)) (fun v0=>some v0)
theorem morphism_Valid_x (N:Nat) (a:Graph) (b:Graph) (m:Morphism):Le (morphism_Validx N a b m) (morphism_Valid a b m):=by
 unfold morphism_Validx morphism_Valid
 with_reducible repeat' first|exact LR _|refine graph_Valid_x N _|refine LB ?_ fun _=>?_|refine LI ?_ ?_|refine LT ?_ (fun _=>?_) fun _=>?_|refine LA fun _ _=>?_|refine LF fun _ _=>?_|refine LW fun _=>?_
noncomputable def morphism_imagesx (N:Nat) (l:List Int):Option Int:=
 (slices_Clone_int l).bind fun x5=>
 (slices_Sort_intx N x5).bind fun x7=>
 (slices_Compact_int x7).bind fun x9=>
 some (x9.length:Int)
theorem morphism_images_x (N:Nat) (l:List Int):Le (morphism_imagesx N l) (morphism_images l):=by
 unfold morphism_imagesx morphism_images
 with_reducible repeat' first|exact LR _|refine slices_Sort_int_x N _|refine LB ?_ fun _=>?_|refine LI ?_ ?_|refine LT ?_ (fun _=>?_) fun _=>?_|refine LA fun _ _=>?_|refine LF fun _ _=>?_|refine LW fun _=>?_
noncomputable def morphism_Injectivex (N:Nat) (a:Graph) (b:Graph) (m:Morphism):Option Bool:=
 (morphism_Validx N a b m).bind fun x10=>
 (if (decide (x10=0))=true then ((morphism_imagesx N m.Nodes).bind fun x15=>
 some (decide (x15=(m.Nodes.length:Int)))) else some false).bind fun x20=>
 (if x20=true then ((morphism_imagesx N m.Edges).bind fun x24=>
 some (decide (x24=(m.Edges.length:Int)))) else some false).bind fun x29=>
 some x29
theorem morphism_Injective_x (N:Nat) (a:Graph) (b:Graph) (m:Morphism):Le (morphism_Injectivex N a b m) (morphism_Injective a b m):=by
 unfold morphism_Injectivex morphism_Injective
 with_reducible repeat' first|exact LR _|refine morphism_Valid_x N _ _ _|refine morphism_images_x N _|refine LB ?_ fun _=>?_|refine LI ?_ ?_|refine LT ?_ (fun _=>?_) fun _=>?_|refine LA fun _ _=>?_|refine LF fun _ _=>?_|refine LW fun _=>?_
noncomputable def condition_insideFx (N:Nat):Nat->Types->Pattern->Condition->Option Int
 | 0,_,_,_=>none
 | n+1,t,p,c=>
  if (decide (c.Kind=5))=true then
  if (decide (c.Pattern.Vars<p.Vars))=true then
  some 20
  else
  (condition_patternx N t c.Pattern p.Vars).bind fun x27=>
  if (!decide (x27=0))=true then
  some x27
  else
  (morphism_Validx N p.Graph c.Pattern.Graph c.Map).bind fun x37=>
  if (!decide (x37=0))=true then
  some x37
  else
  (morphism_Injectivex N p.Graph c.Pattern.Graph c.Map).bind fun x47=>
  if (!x47)=true then
  some 1
  else
  thenR (forR (ρ:=Int) (fun (i0:Int) (_:Unit)=>
  (idx c.Kids i0).bind fun x55=>
  (condition_insideFx N n t c.Pattern x55).bind fun x60=>
  if (!decide (x60=0))=true then
  some (.ret x60)
  else
  some (.next ())) 0 (c.Kids.length:Int) ()) (fun _=>
  some 0) (fun v0=>some v0)
  else
  thenR (forR (ρ:=Int) (fun (i0:Int) (_:Unit)=>
  (idx c.Kids i0).bind fun x55=>
  (condition_insideFx N n t p x55).bind fun x60=>
  if (!decide (x60=0))=true then
  some (.ret x60)
  else
  some (.next ())) 0 (c.Kids.length:Int) ()) (fun _=>
  some 0) (fun v0=>some v0)
theorem condition_insideF_g (N:Nat):∀ n m:Nat,n<=m->(∀ (a0:Types) (a1:Pattern) (a2:Condition),Le (condition_insideFx N n a0 a1 a2) (condition_insideF m a0 a1 a2))
 | 0,_,_=>fun _ _ _=>Le.none _
 | n+1,0,h=>absurd h (by omega)
 | n+1,m+1,h=>by
  have ih:=condition_insideF_g N n m (by omega)
  intro a0 a1 a2
  unfold condition_insideFx condition_insideF
  with_reducible repeat' first|exact LR _|exact ih _ _ _ |refine condition_pattern_x N _ _ _|refine morphism_Injective_x N _ _ _|refine morphism_Valid_x N _ _ _|refine LB ?_ fun _=>?_|refine LI ?_ ?_|refine LT ?_ (fun _=>?_) fun _=>?_|refine LA fun _ _=>?_|refine LF fun _ _=>?_|refine LW fun _=>?_
theorem condition_insideF_x (N n m:Nat) (h:n<=m) (a0:Types) (a1:Pattern) (a2:Condition):Le (condition_insideFx N n a0 a1 a2) (condition_insideF m a0 a1 a2):=(condition_insideF_g N n m h) a0 a1 a2
noncomputable def condition_insidex (N:Nat) (t:Types) (p:Pattern) (c:Condition):Option Int:=condition_insideFx N N t p c
theorem condition_inside_x (N:Nat) (t:Types) (p:Pattern) (c:Condition):Le (condition_insidex N t p c) (condition_inside t p c):=Le.lim N fun n hn=>condition_insideF_x N N n hn t p c
noncomputable def condition_Validx (N:Nat) (t:Types) (p:Pattern) (c:Condition):Option Int:=
 (attribute_Validx N t p).bind fun x11=>
 if (!decide (x11=0))=true then
 some x11
 else
 (condition_shapex N c).bind fun x16=>
 if (!decide (x16=0))=true then
 some x16
 else
 (condition_insidex N t p c).bind fun x23=>
 some x23
theorem condition_Valid_x (N:Nat) (t:Types) (p:Pattern) (c:Condition):Le (condition_Validx N t p c) (condition_Valid t p c):=by
 unfold condition_Validx condition_Valid
 with_reducible repeat' first|exact LR _|refine attribute_Valid_x N _ _|refine condition_inside_x N _ _ _|refine condition_shape_x N _|refine LB ?_ fun _=>?_|refine LI ?_ ?_|refine LT ?_ (fun _=>?_) fun _=>?_|refine LA fun _ _=>?_|refine LF fun _ _=>?_|refine LW fun _=>?_
noncomputable def host_nodex (N:Nat) (t:Types) (kind:Int) (values:List Int):Option Int:=
 if (decide ((t.Nodes.length:Int)<=kind))=true then
 some 6
 else
 (idx t.Nodes kind).bind fun x19=>
 if x19.Abstract=true then
 some 13
 else
 (types_Attrsx N t kind).bind fun x25=>
 if (!decide ((values.length:Int)=(x25.1.length:Int)))=true then
 some 20
 else
 thenR (forR (ρ:=Int) (fun (i0:Int) (_:Unit)=>
 (idx x25.1 i0).bind fun x38=>
 (idx values i0).bind fun x42=>
 (if (decide (x42<x38.Low))=true then some true else ((idx values i0).bind fun x50=>
 some (decide (x38.High<x50)))).bind fun x55=>
 if x55=true then
 some (.ret 6)
 else
 some (.next ())) 0 (x25.1.length:Int) ()) (fun _=>
 some 0) (fun v0=>some v0)
theorem host_node_x (N:Nat) (t:Types) (kind:Int) (values:List Int):Le (host_nodex N t kind values) (host_node t kind values):=by
 unfold host_nodex host_node
 with_reducible repeat' first|exact LR _|refine types_Attrs_x N _ _|refine LB ?_ fun _=>?_|refine LI ?_ ?_|refine LT ?_ (fun _=>?_) fun _=>?_|refine LA fun _ _=>?_|refine LF fun _ _=>?_|refine LW fun _=>?_
noncomputable def types_linex (N:Nat) (t:Types) (a:Int):Option (List Int):=
 thenR (whN N (ρ:=(List Int)) (fun (s0:Int × List Int)=>
 if (decide (0<=s0.1))=true then
 (appC s0.2 [s0.1]).bind fun x17=>
 (idx t.Nodes s0.1).bind fun x11=>
 some (.next (x11.Parent,x17))
 else
 some (.brk (s0.1,s0.2))) (a,[])) (fun s0=>
 (slices_Reverse_int s0.2).bind fun x19=>
 some x19) (fun v0=>some v0)
theorem types_line_x (N:Nat) (t:Types) (a:Int):Le (types_linex N t a) (types_line t a):=by
 unfold types_linex types_line
 with_reducible repeat' first|exact LR _|refine LB ?_ fun _=>?_|refine LI ?_ ?_|refine LT ?_ (fun _=>?_) fun _=>?_|refine LA fun _ _=>?_|refine LF fun _ _=>?_|refine LW fun _=>?_
noncomputable def types_isx (N:Nat) (t:Types) (a:Int) (b:Int):Option Bool:=
 (types_linex N t a).bind fun x9=>
 (slices_Contains_int x9 b).bind fun x11=>
 some x11
theorem types_is_x (N:Nat) (t:Types) (a:Int) (b:Int):Le (types_isx N t a b) (types_is t a b):=by
 unfold types_isx types_is
 with_reducible repeat' first|exact LR _|refine types_line_x N _ _|refine LB ?_ fun _=>?_|refine LI ?_ ?_|refine LT ?_ (fun _=>?_) fun _=>?_|refine LA fun _ _=>?_|refine LF fun _ _=>?_|refine LW fun _=>?_
noncomputable def types_Fitsx (N:Nat) (t:Types) (edge:Int) (from':Int) (to':Int):Option Bool:=
 (types_givenx N t [from',to']).bind fun x13=>
 if (((!decide (x13=0))||(decide (edge<0)))||(decide ((t.Edges.length:Int)<=edge)))=true then
 some false
 else
 (idx t.Edges edge).bind fun x31=>
 (types_isx N t from' x31.From).bind fun x34=>
 (if x34=true then ((idx t.Edges edge).bind fun x41=>
 (types_isx N t to' x41.To).bind fun x44=>
 some (x44)) else some false).bind fun x45=>
 some x45
theorem types_Fits_x (N:Nat) (t:Types) (edge:Int) (from':Int) (to':Int):Le (types_Fitsx N t edge from' to') (types_Fits t edge from' to'):=by
 unfold types_Fitsx types_Fits
 with_reducible repeat' first|exact LR _|refine types_given_x N _ _|refine types_is_x N _ _ _|refine LB ?_ fun _=>?_|refine LI ?_ ?_|refine LT ?_ (fun _=>?_) fun _=>?_|refine LA fun _ _=>?_|refine LF fun _ _=>?_|refine LW fun _=>?_
noncomputable def host_Validx (N:Nat) (t:Types) (h_1:Host):Option (Int × Int):=
 (types_Validx N t).bind fun x16=>
 if (!decide (x16.2=0))=true then
 some ((-1),x16.2)
 else
 (graph_Validx N h_1.Graph).bind fun x24=>
 if (!decide (x24=0))=true then
 some ((-1),x24)
 else
 if (!decide ((h_1.Values.length:Int)=(h_1.Graph.Nodes.length:Int)))=true then
 some ((-1),20)
 else
 thenR (forR (ρ:=(Int × Int)) (fun (i0:Int) (_:Unit)=>
 (idx h_1.Graph.Nodes i0).bind fun x43=>
 (idx h_1.Values i0).bind fun x50=>
 (host_nodex N t x43 x50).bind fun x52=>
 if (!decide (x52=0))=true then
 some (.ret (i0,x52))
 else
 some (.next ())) 0 (h_1.Graph.Nodes.length:Int) ()) (fun _=>
 thenR (forR (ρ:=(Int × Int)) (fun (i2:Int) (_:Unit)=>
 (idx h_1.Graph.Edges i2).bind fun x65=>
 if (decide ((t.Edges.length:Int)<=x65.Type'))=true then
 some (.ret (i2,6))
 else
 (idx h_1.Graph.Nodes x65.From).bind fun x82=>
 (idx h_1.Graph.Nodes x65.To).bind fun x89=>
 (types_Fitsx N t x65.Type' x82 x89).bind fun x91=>
 if (!x91)=true then
 some (.ret (i2,13))
 else
 some (.next ())) 0 (h_1.Graph.Edges.length:Int) ()) (fun _=>
 some ((-1),0)) (fun v2=>some v2)) (fun v0=>some v0)
theorem host_Valid_x (N:Nat) (t:Types) (h_1:Host):Le (host_Validx N t h_1) (host_Valid t h_1):=by
 unfold host_Validx host_Valid
 with_reducible repeat' first|exact LR _|refine graph_Valid_x N _|refine host_node_x N _ _ _|refine types_Fits_x N _ _ _ _|refine types_Valid_x N _|refine LB ?_ fun _=>?_|refine LI ?_ ?_|refine LT ?_ (fun _=>?_) fun _=>?_|refine LA fun _ _=>?_|refine LF fun _ _=>?_|refine LW fun _=>?_
noncomputable def search_withinx (N:Nat) (t:Types) (g:Graph):Option Bool:=
 (slices_ContainsFunc_intx N g.Nodes (fun y0=>search_within_1 y0 t)).bind fun x8=>
 (if (!x8)=true then ((slices_ContainsFunc_Edgex N g.Edges (fun y0=>search_within_2 y0 t)).bind fun x14=>
 some (!x14)) else some false).bind fun x16=>
 some x16
theorem search_within_x (N:Nat) (t:Types) (g:Graph):Le (search_withinx N t g) (search_within t g):=by
 unfold search_withinx search_within
 with_reducible repeat' first|exact LR _|refine slices_ContainsFunc_Edge_x N _ _ _ (fun _=>?_)|refine slices_ContainsFunc_int_x N _ _ _ (fun _=>?_)|refine LB ?_ fun _=>?_|refine LI ?_ ?_|refine LT ?_ (fun _=>?_) fun _=>?_|refine LA fun _ _=>?_|refine LF fun _ _=>?_|refine LW fun _=>?_
noncomputable def search_validx (N:Nat) (t:Types) (p:Graph) (g:Graph):Option Int:=
 (types_Validx N t).bind fun x14=>
 if (!decide (x14.2=0))=true then
 some x14.2
 else
 thenR (forR (ρ:=Int) (fun (i0:Int) (_:Unit)=>
 (idx [p,g] i0).bind fun x26=>
 (graph_Validx N x26).bind fun x29=>
 if (!decide (x29=0))=true then
 some (.ret x29)
 else
 some (.next ())) 0 ([p,g].length:Int) ()) (fun _=>
 (search_withinx N t p).bind fun x36=>
 (if (!x36)=true then some true else ((search_withinx N t g).bind fun x41=>
 some (!x41))).bind fun x43=>
 if x43=true then
 some 13
 else
 some 0) (fun v0=>some v0)
theorem search_valid_x (N:Nat) (t:Types) (p:Graph) (g:Graph):Le (search_validx N t p g) (search_valid t p g):=by
 unfold search_validx search_valid
 with_reducible repeat' first|exact LR _|refine graph_Valid_x N _|refine search_within_x N _ _|refine types_Valid_x N _|refine LB ?_ fun _=>?_|refine LI ?_ ?_|refine LT ?_ (fun _=>?_) fun _=>?_|refine LA fun _ _=>?_|refine LF fun _ _=>?_|refine LW fun _=>?_
noncomputable def types_Belowx (N:Nat) (t:Types) (a:Int):Option (List Int × Int):=
 (types_givenx N t [a]).bind fun x12=>
 if (!decide (x12=0))=true then
 some ([],x12)
 else
 (forA (fun (i0:Int) (s0:List Int)=>
 (types_isx N t i0 a).bind fun x25=>
 if x25=true then
 (appC s0 [i0]).bind fun x29=>
 some x29
 else
 some s0) 0 (t.Nodes.length:Int) []).bind fun s0=>
 some (s0,0)
theorem types_Below_x (N:Nat) (t:Types) (a:Int):Le (types_Belowx N t a) (types_Below t a):=by
 unfold types_Belowx types_Below
 with_reducible repeat' first|exact LR _|refine types_given_x N _ _|refine types_is_x N _ _ _|refine LB ?_ fun _=>?_|refine LI ?_ ?_|refine LT ?_ (fun _=>?_) fun _=>?_|refine LA fun _ _=>?_|refine LF fun _ _=>?_|refine LW fun _=>?_
noncomputable def search_belowx (N:Nat) (t:Types):Option (List (List Bool)):=
 (forA (fun (i0:Int) (s0:List (List Bool))=>
 (mkz (t.Nodes.length:Int) false).bind fun x19=>
 (types_Belowx N t i0).bind fun x23=>
 (forA (fun (i2:Int) (s2:List Bool)=>
 (idx x23.1 i2).bind fun x30=>
 (idx s2 x30).bind fun x34=>
 some (setE s2 x30 true)) 0 (x23.1.length:Int) x19).bind fun s2=>
 (appC s0 [s2]).bind fun x39=>
 some x39) 0 (t.Nodes.length:Int) []).bind fun s0=>
 some s0
theorem search_below_x (N:Nat) (t:Types):Le (search_belowx N t) (search_below t):=by
 unfold search_belowx search_below
 with_reducible repeat' first|exact LR _|refine types_Below_x N _ _|refine LB ?_ fun _=>?_|refine LI ?_ ?_|refine LT ?_ (fun _=>?_) fun _=>?_|refine LA fun _ _=>?_|refine LF fun _ _=>?_|refine LW fun _=>?_
noncomputable def search_shapex (N:Nat) (t:Types) (p:Graph) (g:Graph) (m:Morphism):Option Int:=
 if ((!decide ((m.Nodes.length:Int)=(p.Nodes.length:Int)))||(!decide ((m.Edges.length:Int)=(p.Edges.length:Int))))=true then
 some 20
 else
 (search_belowx N t).bind fun x33=>
 thenR (forR (ρ:=Int) (fun (i0:Int) (_:Unit)=>
 (idx m.Nodes i0).bind fun x40=>
 if ((decide (x40<0))||(decide ((g.Nodes.length:Int)<=x40)))=true then
 some (.ret 6)
 else
 (idx p.Nodes i0).bind fun x55=>
 (idx x33 x55).bind fun x57=>
 (idx g.Nodes x40).bind fun x62=>
 (idx x57 x62).bind fun x64=>
 if (!x64)=true then
 some (.ret 13)
 else
 some (.next ())) 0 (m.Nodes.length:Int) ()) (fun _=>
 thenR (forR (ρ:=Int) (fun (i2:Int) (_:Unit)=>
 (idx m.Edges i2).bind fun x74=>
 if ((decide (x74<0))||(decide ((g.Edges.length:Int)<=x74)))=true then
 some (.ret 6)
 else
 (idx p.Edges i2).bind fun x88=>
 (idx g.Edges x74).bind fun x93=>
 if (!decide (x88.Type'=x93.Type'))=true then
 some (.ret 13)
 else
 (idx m.Nodes x88.From).bind fun x104=>
 (if (!decide (x104=x93.From))=true then some true else ((idx m.Nodes x88.To).bind fun x114=>
 some (!decide (x114=x93.To)))).bind fun x119=>
 if x119=true then
 some (.ret 11)
 else
 some (.next ())) 0 (m.Edges.length:Int) ()) (fun _=>
 some 0) (fun v2=>some v2)) (fun v0=>some v0)
theorem search_shape_x (N:Nat) (t:Types) (p:Graph) (g:Graph) (m:Morphism):Le (search_shapex N t p g m) (search_shape t p g m):=by
 unfold search_shapex search_shape
 with_reducible repeat' first|exact LR _|refine search_below_x N _|refine LB ?_ fun _=>?_|refine LI ?_ ?_|refine LT ?_ (fun _=>?_) fun _=>?_|refine LA fun _ _=>?_|refine LF fun _ _=>?_|refine LW fun _=>?_
noncomputable def search_Checkx (N:Nat) (t:Types) (p:Graph) (g:Graph) (m:Morphism) (injective:Bool):Option Int:=
 (search_validx N t p g).bind fun x16=>
 if (!decide (x16=0))=true then
 some x16
 else
 (search_shapex N t p g m).bind fun x24=>
 if (!decide (x24=0))=true then
 some x24
 else
 (if injective=true then ((search_twicex N m.Nodes).bind fun x32=>
 (if x32=true then some true else ((search_twicex N m.Edges).bind fun x36=>
 some (x36))).bind fun x37=>
 some (x37)) else some false).bind fun x38=>
 if x38=true then
 some 5
 else
 some 0
theorem search_Check_x (N:Nat) (t:Types) (p:Graph) (g:Graph) (m:Morphism) (injective:Bool):Le (search_Checkx N t p g m injective) (search_Check t p g m injective):=by
 unfold search_Checkx search_Check
 with_reducible repeat' first|exact LR _|refine search_shape_x N _ _ _ _|refine search_twice_x N _|refine search_valid_x N _ _ _|refine LB ?_ fun _=>?_|refine LI ?_ ?_|refine LT ?_ (fun _=>?_) fun _=>?_|refine LA fun _ _=>?_|refine LF fun _ _=>?_|refine LW fun _=>?_
noncomputable def attribute_givenx (N:Nat) (t:Types) (p:Pattern) (h_2:Host):Option Int:=
 (attribute_Validx N t p).bind fun x12=>
 if (!decide (x12=0))=true then
 some x12
 else
 (host_Validx N t h_2).bind fun x19=>
 some x19.2
theorem attribute_given_x (N:Nat) (t:Types) (p:Pattern) (h_2:Host):Le (attribute_givenx N t p h_2) (attribute_given t p h_2):=by
 unfold attribute_givenx attribute_given
 with_reducible repeat' first|exact LR _|refine attribute_Valid_x N _ _|refine host_Valid_x N _ _|refine LB ?_ fun _=>?_|refine LI ?_ ?_|refine LT ?_ (fun _=>?_) fun _=>?_|refine LA fun _ _=>?_|refine LF fun _ _=>?_|refine LW fun _=>?_
noncomputable def attribute_Solvex (N:Nat) (t:Types) (p:Pattern) (h_2:Host) (m:Morphism):Option (List Int × Int):=
 (attribute_givenx N t p h_2).bind fun x15=>
 if (!decide (x15=0))=true then
 some ([],x15)
 else
 (search_Checkx N t p.Graph h_2.Graph m false).bind fun x25=>
 if (!decide (x25=0))=true then
 some ([],x25)
 else
 (attribute_solve p h_2 m).bind fun x32=>
 some (x32.1,x32.2)
theorem attribute_Solve_x (N:Nat) (t:Types) (p:Pattern) (h_2:Host) (m:Morphism):Le (attribute_Solvex N t p h_2 m) (attribute_Solve t p h_2 m):=by
 unfold attribute_Solvex attribute_Solve
 with_reducible repeat' first|exact LR _|refine attribute_given_x N _ _ _|refine search_Check_x N _ _ _ _ _|refine LB ?_ fun _=>?_|refine LI ?_ ?_|refine LT ?_ (fun _=>?_) fun _=>?_|refine LA fun _ _=>?_|refine LF fun _ _=>?_|refine LW fun _=>?_
noncomputable def condition_givenx (N:Nat) (t:Types) (p:Pattern) (c:Condition) (h_3:Host) (m:GMatch) (injective:Bool):Option Int:=
 (condition_Validx N t p c).bind fun x22=>
 if (!decide (x22=0))=true then
 some x22
 else
 (host_Validx N t h_3).bind fun x29=>
 if (!decide (x29.2=0))=true then
 some x29.2
 else
 (search_Checkx N t p.Graph h_3.Graph m.Morphism injective).bind fun x43=>
 if (!decide (x43=0))=true then
 some x43
 else
 (attribute_Solvex N t p h_3 m.Morphism).bind fun x53=>
 if (!decide (x53.2=0))=true then
 some x53.2
 else
 (slices_Equal_int x53.1 m.Vars).bind fun x62=>
 if (!x62)=true then
 some 11
 else
 some 0
theorem condition_given_x (N:Nat) (t:Types) (p:Pattern) (c:Condition) (h_3:Host) (m:GMatch) (injective:Bool):Le (condition_givenx N t p c h_3 m injective) (condition_given t p c h_3 m injective):=by
 unfold condition_givenx condition_given
 with_reducible repeat' first|exact LR _|refine attribute_Solve_x N _ _ _ _|refine condition_Valid_x N _ _ _|refine host_Valid_x N _ _|refine search_Check_x N _ _ _ _ _|refine LB ?_ fun _=>?_|refine LI ?_ ?_|refine LT ?_ (fun _=>?_) fun _=>?_|refine LA fun _ _=>?_|refine LF fun _ _=>?_|refine LW fun _=>?_
noncomputable def search_openx (N:Nat) (l:List Int) (n:Int):Option Int:=
 (slices_ContainsFunc_intx N l (fun y0=>search_open_1 y0 n)).bind fun x7=>
 if x7=true then
 some 6
 else
 some 0
theorem search_open_x (N:Nat) (l:List Int) (n:Int):Le (search_openx N l n) (search_open l n):=by
 unfold search_openx search_open
 with_reducible repeat' first|exact LR _|refine slices_ContainsFunc_int_x N _ _ _ (fun _=>?_)|refine LB ?_ fun _=>?_|refine LI ?_ ?_|refine LT ?_ (fun _=>?_) fun _=>?_|refine LA fun _ _=>?_|refine LF fun _ _=>?_|refine LW fun _=>?_
noncomputable def __search_finder__findFx (N:Nat):Nat->search_finder->Option search_finder
 | 0,_=>none
 | n+1,f=>
  (if (decide ((f.out.length:Int)=f.most))=true then
  some f
  else
  if (decide ((f.nodes.length:Int)<(f.p.Nodes.length:Int)))=true then
  (forA (fun (i1:Int) (s1:search_finder)=>
  (idx f.g.Nodes i1).bind fun x66=>
  (search_given s1.partial_.Nodes (f.nodes.length:Int)).bind fun x74=>
  (if ((decide (0<=x74))&&(!decide (x74=i1)))=true then some true else ((idx s1.p.Nodes (f.nodes.length:Int)).bind fun x93=>
  (idx s1.is x93).bind fun x95=>
  (idx x95 x66).bind fun x98=>
  some (!x98))).bind fun x101=>
  (if x101=true then some true else ((if s1.injective=true then ((slices_Contains_int s1.nodes i1).bind fun x113=>
  some (x113)) else some false).bind fun x114=>
  some (x114))).bind fun x115=>
  if x115=true then
  some s1
  else
  (appC s1.nodes [i1]).bind fun x123=>
  (__search_finder__possible (search_finder.mk s1.p s1.g s1.is s1.partial_ s1.injective s1.most x123 s1.edges s1.out)).bind fun x127=>
  if x127=true then
  (__search_finder__findFx N n (search_finder.mk s1.p s1.g s1.is s1.partial_ s1.injective s1.most x123 s1.edges s1.out)).bind fun x129=>
  (slc x129.nodes 0 (f.nodes.length:Int)).bind fun x136=>
  some (search_finder.mk x129.p x129.g x129.is x129.partial_ x129.injective x129.most x136 x129.edges x129.out)
  else
  (slc x123 0 (f.nodes.length:Int)).bind fun x136=>
  some (search_finder.mk s1.p s1.g s1.is s1.partial_ s1.injective s1.most x136 s1.edges s1.out)) 0 (f.g.Nodes.length:Int) f).bind fun s1=>
  some s1
  else
  if (decide ((f.edges.length:Int)<(f.p.Edges.length:Int)))=true then
  (forA (fun (i3:Int) (s3:search_finder)=>
  (__search_finder__fits s3 (f.edges.length:Int) i3).bind fun x170=>
  (if (!x170)=true then some true else ((if s3.injective=true then ((slices_Contains_int s3.edges i3).bind fun x183=>
  some (x183)) else some false).bind fun x184=>
  some (x184))).bind fun x185=>
  if x185=true then
  some s3
  else
  (appC s3.edges [i3]).bind fun x193=>
  (__search_finder__findFx N n (search_finder.mk s3.p s3.g s3.is s3.partial_ s3.injective s3.most s3.nodes x193 s3.out)).bind fun x197=>
  (slc x197.edges 0 (f.edges.length:Int)).bind fun x204=>
  some (search_finder.mk x197.p x197.g x197.is x197.partial_ x197.injective x197.most x197.nodes x204 x197.out)) 0 (f.g.Edges.length:Int) f).bind fun s3=>
  some s3
  else
  (slices_Clone_int f.nodes).bind fun x17=>
  (slices_Clone_int f.edges).bind fun x22=>
  (appC f.out [Morphism.mk x17 x22]).bind fun x25=>
  some (search_finder.mk f.p f.g f.is f.partial_ f.injective f.most f.nodes f.edges x25)).bind fun w1=>
  some w1
theorem __search_finder__findF_g (N:Nat):∀ n m:Nat,n<=m->(∀ (a0:search_finder),Le (__search_finder__findFx N n a0) (__search_finder__findF m a0))
 | 0,_,_=>fun _=>Le.none _
 | n+1,0,h=>absurd h (by omega)
 | n+1,m+1,h=>by
  have ih:=__search_finder__findF_g N n m (by omega)
  intro a0
  unfold __search_finder__findFx __search_finder__findF
  with_reducible repeat' first|exact LR _|exact ih _ |refine LB ?_ fun _=>?_|refine LI ?_ ?_|refine LT ?_ (fun _=>?_) fun _=>?_|refine LA fun _ _=>?_|refine LF fun _ _=>?_|refine LW fun _=>?_
theorem __search_finder__findF_x (N n m:Nat) (h:n<=m) (a0:search_finder):Le (__search_finder__findFx N n a0) (__search_finder__findF m a0):=(__search_finder__findF_g N n m h) a0
noncomputable def __search_finder__findx (N:Nat) (f:search_finder):Option search_finder:=__search_finder__findFx N N f
theorem __search_finder__find_x (N:Nat) (f:search_finder):Le (__search_finder__findx N f) (__search_finder__find f):=Le.lim N fun n hn=>__search_finder__findF_x N N n hn f
noncomputable def search_foundx (N:Nat) (t:Types) (p:Graph) (g:Graph) (partial_:Morphism) (injective:Bool) (most:Int):Option (List Morphism):=
 (search_belowx N t).bind fun x17=>
 (__search_finder__findx N (search_finder.mk p g x17 partial_ injective most [] [] [])).bind fun x24=>
 some x24.out
theorem search_found_x (N:Nat) (t:Types) (p:Graph) (g:Graph) (partial_:Morphism) (injective:Bool) (most:Int):Le (search_foundx N t p g partial_ injective most) (search_found t p g partial_ injective most):=by
 unfold search_foundx search_found
 with_reducible repeat' first|exact LR _|refine __search_finder__find_x N _|refine search_below_x N _|refine LB ?_ fun _=>?_|refine LI ?_ ?_|refine LT ?_ (fun _=>?_) fun _=>?_|refine LA fun _ _=>?_|refine LF fun _ _=>?_|refine LW fun _=>?_
noncomputable def search_allx (N:Nat) (t:Types) (p:Graph) (g:Graph) (partial_:Morphism) (injective:Bool):Option (List Morphism × Int):=
 (search_foundx N t p g partial_ injective 5001).bind fun x18=>
 if (decide (5000<(x18.length:Int)))=true then
 some ([],3)
 else
 some (x18,0)
theorem search_all_x (N:Nat) (t:Types) (p:Graph) (g:Graph) (partial_:Morphism) (injective:Bool):Le (search_allx N t p g partial_ injective) (search_all t p g partial_ injective):=by
 unfold search_allx search_all
 with_reducible repeat' first|exact LR _|refine search_found_x N _ _ _ _ _ _|refine LB ?_ fun _=>?_|refine LI ?_ ?_|refine LT ?_ (fun _=>?_) fun _=>?_|refine LA fun _ _=>?_|refine LF fun _ _=>?_|refine LW fun _=>?_
noncomputable def search_Extendx (N:Nat) (t:Types) (p:Graph) (g:Graph) (partial_:Morphism) (injective:Bool):Option (List Morphism × Int):=
 (search_validx N t p g).bind fun x18=>
 if (!decide (x18=0))=true then
 some ([],x18)
 else
 if ((!decide ((partial_.Nodes.length:Int)=(p.Nodes.length:Int)))||(!decide ((partial_.Edges.length:Int)=(p.Edges.length:Int))))=true then
 some ([],20)
 else
 (search_openx N partial_.Nodes (g.Nodes.length:Int)).bind fun x43=>
 if (!decide (x43=0))=true then
 some ([],x43)
 else
 (search_openx N partial_.Edges (g.Edges.length:Int)).bind fun x52=>
 if (!decide (x52=0))=true then
 some ([],x52)
 else
 (search_allx N t p g partial_ injective).bind fun x61=>
 some (x61.1,x61.2)
theorem search_Extend_x (N:Nat) (t:Types) (p:Graph) (g:Graph) (partial_:Morphism) (injective:Bool):Le (search_Extendx N t p g partial_ injective) (search_Extend t p g partial_ injective):=by
 unfold search_Extendx search_Extend
 with_reducible repeat' first|exact LR _|refine search_all_x N _ _ _ _ _|refine search_open_x N _ _|refine search_valid_x N _ _ _|refine LB ?_ fun _=>?_|refine LI ?_ ?_|refine LT ?_ (fun _=>?_) fun _=>?_|refine LA fun _ _=>?_|refine LF fun _ _=>?_|refine LW fun _=>?_
noncomputable def _condition_scene__extensionsx (N:Nat) (s_0:condition_scene) (c:Condition) (m:GMatch):Option (List GMatch × Int):=
 (condition_placed (c.Pattern.Graph.Nodes.length:Int) c.Map.Nodes m.Morphism.Nodes).bind fun x29=>
 (condition_placed (c.Pattern.Graph.Edges.length:Int) c.Map.Edges m.Morphism.Edges).bind fun x39=>
 (search_Extendx N s_0.t c.Pattern.Graph s_0.h.Graph (Morphism.mk x29 x39) s_0.injective).bind fun x51=>
 if (!decide (x51.2=0))=true then
 some ([],x51.2)
 else
 (forA (fun (i0:Int) (s0:List GMatch)=>
 (idx x51.1 i0).bind fun x61=>
 (_condition_scene__values s_0 c.Pattern x61 m.Vars).bind fun x70=>
 if x70.2=true then
 (appC s0 [GMatch.mk x61 x70.1]).bind fun x79=>
 some x79
 else
 some s0) 0 (x51.1.length:Int) []).bind fun s0=>
 some (s0,0)
theorem _condition_scene__extensions_x (N:Nat) (s_0:condition_scene) (c:Condition) (m:GMatch):Le (_condition_scene__extensionsx N s_0 c m) (_condition_scene__extensions s_0 c m):=by
 unfold _condition_scene__extensionsx _condition_scene__extensions
 with_reducible repeat' first|exact LR _|refine search_Extend_x N _ _ _ _ _|refine LB ?_ fun _=>?_|refine LI ?_ ?_|refine LT ?_ (fun _=>?_) fun _=>?_|refine LA fun _ _=>?_|refine LF fun _ _=>?_|refine LW fun _=>?_
mutual
noncomputable def _condition_scene__witnessFx (N:Nat):Nat->condition_scene->Condition->GMatch->Option (Proof × Int)
 | 0,_,_,_=>none
 | n+1,s_0,c,m=>
  if (decide (c.Kind=2))=true then
  (idx c.Kids 0).bind fun x27=>
  (_condition_scene__witnessFx N n s_0 x27 m).bind fun x30=>
  if (decide (x30.2=0))=true then
  some (Proof.mk 0 (GMatch.mk (Morphism.mk [] []) []) [],10)
  else
  if (decide (x30.2=10))=true then
  some (Proof.mk 0 (GMatch.mk (Morphism.mk [] []) []) [],0)
  else
  some (Proof.mk 0 (GMatch.mk (Morphism.mk [] []) []) [],x30.2)
  else
  if (decide (c.Kind=3))=true then
  thenR (forR (ρ:=(Proof × Int)) (fun (i2:Int) (s2:Proof × Proof)=>
  (idx c.Kids i2).bind fun x49=>
  (_condition_scene__witnessFx N n s_0 x49 m).bind fun x55=>
  if (!decide (x55.2=0))=true then
  some (.ret (Proof.mk 0 (GMatch.mk (Morphism.mk [] []) []) [],x55.2))
  else
  (appC s2.2.Kids [x55.1]).bind fun x66=>
  some (.next (s2.1,Proof.mk s2.2.Choice s2.2.Match x66))) 0 (c.Kids.length:Int) (Proof.mk 0 (GMatch.mk (Morphism.mk [] []) []) [],Proof.mk 0 (GMatch.mk (Morphism.mk [] []) []) [])) (fun s2=>
  some (s2.2,0)) (fun v2=>some v2)
  else
  if (decide (c.Kind=4))=true then
  thenR (forR (ρ:=(Proof × Int)) (fun (i4:Int) (s4:Proof)=>
  (idx c.Kids i4).bind fun x78=>
  (_condition_scene__witnessFx N n s_0 x78 m).bind fun x84=>
  if (decide (x84.2=0))=true then
  some (.ret (Proof.mk i4 (GMatch.mk (Morphism.mk [] []) []) [x84.1],0))
  else
  if (!decide (x84.2=10))=true then
  some (.ret (Proof.mk 0 (GMatch.mk (Morphism.mk [] []) []) [],x84.2))
  else
  some (.next s4)) 0 (c.Kids.length:Int) (Proof.mk 0 (GMatch.mk (Morphism.mk [] []) []) [])) (fun s4=>
  some (Proof.mk 0 (GMatch.mk (Morphism.mk [] []) []) [],10)) (fun v4=>some v4)
  else
  if (decide (c.Kind=5))=true then
  (_condition_scene__extendedFx N n s_0 c m).bind fun x104=>
  some (x104.1,x104.2)
  else
  some (Proof.mk 0 (GMatch.mk (Morphism.mk [] []) []) [],0)
noncomputable def _condition_scene__extendedFx (N:Nat):Nat->condition_scene->Condition->GMatch->Option (Proof × Int)
 | 0,_,_,_=>none
 | n+1,s_0,c,m=>
  (_condition_scene__extensionsx N s_0 c m).bind fun x18=>
  if (!decide (x18.2=0))=true then
  some (Proof.mk 0 (GMatch.mk (Morphism.mk [] []) []) [],x18.2)
  else
  thenR (forR (ρ:=(Proof × Int)) (fun (i0:Int) (s0:Proof)=>
  (idx x18.1 i0).bind fun x29=>
  (idx c.Kids 0).bind fun x35=>
  (_condition_scene__witnessFx N n s_0 x35 x29).bind fun x38=>
  if (decide (x38.2=0))=true then
  some (.ret (Proof.mk 0 x29 [x38.1],0))
  else
  if (!decide (x38.2=10))=true then
  some (.ret (Proof.mk 0 (GMatch.mk (Morphism.mk [] []) []) [],x38.2))
  else
  some (.next s0)) 0 (x18.1.length:Int) (Proof.mk 0 (GMatch.mk (Morphism.mk [] []) []) [])) (fun s0=>
  some (Proof.mk 0 (GMatch.mk (Morphism.mk [] []) []) [],10)) (fun v0=>some v0)
end
theorem _condition_scene__witnessF_g (N:Nat):∀ n m:Nat,n<=m->(∀ (a0:condition_scene) (a1:Condition) (a2:GMatch),Le (_condition_scene__witnessFx N n a0 a1 a2) (_condition_scene__witnessF m a0 a1 a2))∧(∀ (a0:condition_scene) (a1:Condition) (a2:GMatch),Le (_condition_scene__extendedFx N n a0 a1 a2) (_condition_scene__extendedF m a0 a1 a2))
 | 0,_,_=>⟨fun _ _ _=>Le.none _,fun _ _ _=>Le.none _⟩
 | n+1,0,h=>absurd h (by omega)
 | n+1,m+1,h=>by
  have ih:=_condition_scene__witnessF_g N n m (by omega)
  refine ⟨?_,?_⟩
  ·intro a0 a1 a2
   unfold _condition_scene__witnessFx _condition_scene__witnessF
   with_reducible repeat' first|exact LR _|exact ih.1 _ _ _ |exact ih.2 _ _ _ |refine LB ?_ fun _=>?_|refine LI ?_ ?_|refine LT ?_ (fun _=>?_) fun _=>?_|refine LA fun _ _=>?_|refine LF fun _ _=>?_|refine LW fun _=>?_
  ·intro a0 a1 a2
   unfold _condition_scene__extendedFx _condition_scene__extendedF
   with_reducible repeat' first|exact LR _|exact ih.1 _ _ _ |exact ih.2 _ _ _ |refine _condition_scene__extensions_x N _ _ _|refine LB ?_ fun _=>?_|refine LI ?_ ?_|refine LT ?_ (fun _=>?_) fun _=>?_|refine LA fun _ _=>?_|refine LF fun _ _=>?_|refine LW fun _=>?_
theorem _condition_scene__witnessF_x (N n m:Nat) (h:n<=m) (a0:condition_scene) (a1:Condition) (a2:GMatch):Le (_condition_scene__witnessFx N n a0 a1 a2) (_condition_scene__witnessF m a0 a1 a2):=(_condition_scene__witnessF_g N n m h).1 a0 a1 a2
noncomputable def _condition_scene__witnessx (N:Nat) (s_0:condition_scene) (c:Condition) (m:GMatch):Option (Proof × Int):=_condition_scene__witnessFx N N s_0 c m
theorem _condition_scene__witness_x (N:Nat) (s_0:condition_scene) (c:Condition) (m:GMatch):Le (_condition_scene__witnessx N s_0 c m) (_condition_scene__witness s_0 c m):=Le.lim N fun n hn=>_condition_scene__witnessF_x N N n hn s_0 c m
noncomputable def condition_Witnessx (N:Nat) (t:Types) (p:Pattern) (c:Condition) (h_3:Host) (m:GMatch) (injective:Bool):Option (Proof × Int):=
 (condition_givenx N t p c h_3 m injective).bind fun x21=>
 if (!decide (x21=0))=true then
 some (Proof.mk 0 (GMatch.mk (Morphism.mk [] []) []) [],x21)
 else
 (_condition_scene__witnessx N (condition_scene.mk t h_3 injective) c m).bind fun x32=>
 some (x32.1,x32.2)
theorem condition_Witness_x (N:Nat) (t:Types) (p:Pattern) (c:Condition) (h_3:Host) (m:GMatch) (injective:Bool):Le (condition_Witnessx N t p c h_3 m injective) (condition_Witness t p c h_3 m injective):=by
 unfold condition_Witnessx condition_Witness
 with_reducible repeat' first|exact LR _|refine _condition_scene__witness_x N _ _ _|refine condition_given_x N _ _ _ _ _ _|refine LB ?_ fun _=>?_|refine LI ?_ ?_|refine LT ?_ (fun _=>?_) fun _=>?_|refine LA fun _ _=>?_|refine LF fun _ _=>?_|refine LW fun _=>?_
noncomputable def condition_Satisfiesx (N:Nat) (t:Types) (p:Pattern) (c:Condition) (h_3:Host) (m:GMatch) (injective:Bool):Option (Bool × Int):=
 (condition_Witnessx N t p c h_3 m injective).bind fun x23=>
 if (decide (x23.2=10))=true then
 some (false,0)
 else
 some (decide (x23.2=0),x23.2)
theorem condition_Satisfies_x (N:Nat) (t:Types) (p:Pattern) (c:Condition) (h_3:Host) (m:GMatch) (injective:Bool):Le (condition_Satisfiesx N t p c h_3 m injective) (condition_Satisfies t p c h_3 m injective):=by
 unfold condition_Satisfiesx condition_Satisfies
 with_reducible repeat' first|exact LR _|refine condition_Witness_x N _ _ _ _ _ _|refine LB ?_ fun _=>?_|refine LI ?_ ?_|refine LT ?_ (fun _=>?_) fun _=>?_|refine LA fun _ _=>?_|refine LF fun _ _=>?_|refine LW fun _=>?_
noncomputable def slices_IndexFunc_Matchx (N:Nat) (s_0:List GMatch) (f:GMatch->Option Bool):Option Int:=
 thenR (forR (ρ:=Int) (fun (i0:Int) (_:Unit)=>
 (idx s_0 i0).bind fun x14=>
 (f x14).bind fun x16=>
 if x16=true then
 some (.ret i0)
 else
 some (.next ())) 0 (s_0.length:Int) ()) (fun _=>
 some (-1)) (fun v0=>some v0)
theorem slices_IndexFunc_Match_x (N:Nat) (s_0:List GMatch) (f' f:GMatch->Option Bool) (hf:∀ y0,Le (f' y0) (f y0)):Le (slices_IndexFunc_Matchx N s_0 f') (slices_IndexFunc_Match s_0 f):=by
 unfold slices_IndexFunc_Matchx slices_IndexFunc_Match
 with_reducible repeat' first|exact LR _|exact hf _ |refine LB ?_ fun _=>?_|refine LI ?_ ?_|refine LT ?_ (fun _=>?_) fun _=>?_|refine LA fun _ _=>?_|refine LF fun _ _=>?_|refine LW fun _=>?_
noncomputable def slices_ContainsFunc_Matchx (N:Nat) (s_0:List GMatch) (f:GMatch->Option Bool):Option Bool:=
 (slices_IndexFunc_Matchx N s_0 f).bind fun x7=>
 some (decide (0<=x7))
theorem slices_ContainsFunc_Match_x (N:Nat) (s_0:List GMatch) (f' f:GMatch->Option Bool) (hf:∀ y0,Le (f' y0) (f y0)):Le (slices_ContainsFunc_Matchx N s_0 f') (slices_ContainsFunc_Match s_0 f):=by
 unfold slices_ContainsFunc_Matchx slices_ContainsFunc_Match
 with_reducible repeat' first|exact LR _|exact hf _ |refine slices_IndexFunc_Match_x N _ _ _ (fun _=>?_)|refine LB ?_ fun _=>?_|refine LI ?_ ?_|refine LT ?_ (fun _=>?_) fun _=>?_|refine LA fun _ _=>?_|refine LF fun _ _=>?_|refine LW fun _=>?_
noncomputable def _condition_scene__rightFx (N:Nat):Nat->condition_scene->Condition->GMatch->Proof->Option Bool
 | 0,_,_,_,_=>none
 | n+1,s_0,c,m,w=>
  if (decide (c.Kind=1))=true then
  (if ((decide ((w.Kids.length:Int)=0))&&(decide (w.Choice=0)))=true then ((condition_unmatched w.Match).bind fun x33=>
  some (x33)) else some false).bind fun x34=>
  some x34
  else
  if (decide (c.Kind=2))=true then
  (idx c.Kids 0).bind fun x41=>
  (_condition_scene__witnessx N s_0 x41 m).bind fun x44=>
  (if ((decide ((w.Kids.length:Int)=0))&&(decide (w.Choice=0)))=true then ((condition_unmatched w.Match).bind fun x57=>
  some (x57)) else some false).bind fun x58=>
  some (x58&&(decide (x44.2=10)))
  else
  if (decide (c.Kind=3))=true then
  (if ((!decide ((w.Kids.length:Int)=(c.Kids.length:Int)))||(!decide (w.Choice=0)))=true then some true else ((condition_unmatched w.Match).bind fun x78=>
  some (!x78))).bind fun x80=>
  if x80=true then
  some false
  else
  thenR (forR (ρ:=Bool) (fun (i1:Int) (_:Unit)=>
  (idx c.Kids i1).bind fun x87=>
  (idx w.Kids i1).bind fun x95=>
  (_condition_scene__rightFx N n s_0 x87 m x95).bind fun x97=>
  if (!x97)=true then
  some (.ret false)
  else
  some (.next ())) 0 (c.Kids.length:Int) ()) (fun _=>
  some true) (fun v1=>some v1)
  else
  if (decide (c.Kind=4))=true then
  (if (((decide ((w.Kids.length:Int)=1))&&(decide (0<=w.Choice)))&&(decide (w.Choice<(c.Kids.length:Int))))=true then ((condition_unmatched w.Match).bind fun x120=>
  some (x120)) else some false).bind fun x121=>
  (if x121=true then ((idx c.Kids w.Choice).bind fun x128=>
  (idx w.Kids 0).bind fun x133=>
  (_condition_scene__rightFx N n s_0 x128 m x133).bind fun x135=>
  some (x135)) else some false).bind fun x136=>
  some x136
  else
  if ((!decide ((w.Kids.length:Int)=1))||(!decide (w.Choice=0)))=true then
  some false
  else
  (_condition_scene__extensionsx N s_0 c m).bind fun x148=>
  (if (!decide (x148.2=0))=true then some true else ((slices_ContainsFunc_Matchx N x148.1 (fun y0=>_condition_scene__right_1 y0 w)).bind fun x156=>
  some (!x156))).bind fun x158=>
  if x158=true then
  some false
  else
  (idx c.Kids 0).bind fun x162=>
  (idx w.Kids 0).bind fun x168=>
  (_condition_scene__rightFx N n s_0 x162 w.Match x168).bind fun x170=>
  some x170
theorem _condition_scene__rightF_g (N:Nat):∀ n m:Nat,n<=m->(∀ (a0:condition_scene) (a1:Condition) (a2:GMatch) (a3:Proof),Le (_condition_scene__rightFx N n a0 a1 a2 a3) (_condition_scene__rightF m a0 a1 a2 a3))
 | 0,_,_=>fun _ _ _ _=>Le.none _
 | n+1,0,h=>absurd h (by omega)
 | n+1,m+1,h=>by
  have ih:=_condition_scene__rightF_g N n m (by omega)
  intro a0 a1 a2 a3
  unfold _condition_scene__rightFx _condition_scene__rightF
  with_reducible repeat' first|exact LR _|exact ih _ _ _ _ |refine _condition_scene__extensions_x N _ _ _|refine _condition_scene__witness_x N _ _ _|refine slices_ContainsFunc_Match_x N _ _ _ (fun _=>?_)|refine LB ?_ fun _=>?_|refine LI ?_ ?_|refine LT ?_ (fun _=>?_) fun _=>?_|refine LA fun _ _=>?_|refine LF fun _ _=>?_|refine LW fun _=>?_
theorem _condition_scene__rightF_x (N n m:Nat) (h:n<=m) (a0:condition_scene) (a1:Condition) (a2:GMatch) (a3:Proof):Le (_condition_scene__rightFx N n a0 a1 a2 a3) (_condition_scene__rightF m a0 a1 a2 a3):=(_condition_scene__rightF_g N n m h) a0 a1 a2 a3
noncomputable def _condition_scene__rightx (N:Nat) (s_0:condition_scene) (c:Condition) (m:GMatch) (w:Proof):Option Bool:=_condition_scene__rightFx N N s_0 c m w
theorem _condition_scene__right_x (N:Nat) (s_0:condition_scene) (c:Condition) (m:GMatch) (w:Proof):Le (_condition_scene__rightx N s_0 c m w) (_condition_scene__right s_0 c m w):=Le.lim N fun n hn=>_condition_scene__rightF_x N N n hn s_0 c m w
noncomputable def condition_CheckWitnessx (N:Nat) (t:Types) (p:Pattern) (c:Condition) (h_3:Host) (m:GMatch) (injective:Bool) (w:Proof):Option Bool:=
 (condition_givenx N t p c h_3 m injective).bind fun x21=>
 (if (decide (x21=0))=true then ((_condition_scene__rightx N (condition_scene.mk t h_3 injective) c m w).bind fun x31=>
 some (x31)) else some false).bind fun x32=>
 some x32
theorem condition_CheckWitness_x (N:Nat) (t:Types) (p:Pattern) (c:Condition) (h_3:Host) (m:GMatch) (injective:Bool) (w:Proof):Le (condition_CheckWitnessx N t p c h_3 m injective w) (condition_CheckWitness t p c h_3 m injective w):=by
 unfold condition_CheckWitnessx condition_CheckWitness
 with_reducible repeat' first|exact LR _|refine _condition_scene__right_x N _ _ _ _|refine condition_given_x N _ _ _ _ _ _|refine LB ?_ fun _=>?_|refine LI ?_ ?_|refine LT ?_ (fun _=>?_) fun _=>?_|refine LA fun _ _=>?_|refine LF fun _ _=>?_|refine LW fun _=>?_
noncomputable def law22_awakex (N:Nat) :Option Bool:=
 (ref04_Example).bind fun x10=>
 (law22_another).bind fun x11=>
 (condition_Witnessx N x10 x11.P x11.C (Host.mk (Graph.mk [3,1,1] [Edge.mk 0 0 1,Edge.mk 0 0 2]) [[],[10],[5]]) (GMatch.mk (Morphism.mk [0,2] [1]) [5]) true).bind fun x39=>
 (condition_Satisfiesx N x10 x11.P x11.C (Host.mk (Graph.mk [3,1,1] [Edge.mk 0 0 1,Edge.mk 0 0 2]) [[],[10],[5]]) (GMatch.mk (Morphism.mk [0,1] [0]) [10]) true).bind fun x50=>
 (if ((((decide (x39.2=0))&&(decide (x50.2=0)))&&(!x50.1))&&(decide ((x39.1.Match.Vars.length:Int)=2)))=true then ((idx x39.1.Match.Vars 1).bind fun x74=>
 some (decide (x74=10))) else some false).bind fun x77=>
 (if x77=true then ((condition_CheckWitnessx N x10 x11.P x11.C (Host.mk (Graph.mk [3,1,1] [Edge.mk 0 0 1,Edge.mk 0 0 2]) [[],[10],[5]]) (GMatch.mk (Morphism.mk [0,2] [1]) [5]) true x39.1).bind fun x87=>
 some (x87)) else some false).bind fun x88=>
 some x88
theorem law22_awake_x (N:Nat) :Le (law22_awakex N) (law22_awake):=by
 unfold law22_awakex law22_awake
 with_reducible repeat' first|exact LR _|refine condition_CheckWitness_x N _ _ _ _ _ _ _|refine condition_Satisfies_x N _ _ _ _ _ _|refine condition_Witness_x N _ _ _ _ _ _|refine LB ?_ fun _=>?_|refine LI ?_ ?_|refine LT ?_ (fun _=>?_) fun _=>?_|refine LA fun _ _=>?_|refine LF fun _ _=>?_|refine LW fun _=>?_
end Go.Sf.Sc
