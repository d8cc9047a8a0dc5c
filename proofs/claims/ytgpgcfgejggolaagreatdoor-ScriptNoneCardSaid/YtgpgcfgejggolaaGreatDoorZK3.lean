/- The types of the program, as data, and how they lie in cells. Printed by a program of ours (drv.py). -/
import Derived.Test.YtgpgcfgejggolaaGreatDoorZMLib
namespace Go.Cf
open Go
set_option linter.unusedVariables false
structure T_vec_Vec where
 Epoch:Int
 Has:(List Bool)
 T:(List Int)
structure T_stab_Table where
 dc:Int
 beats:(List Int)
 got:T_vec_Vec
 known:T_vec_Vec
 stable:Int
structure T_api_Ver where
 Key:ByteArray
 Val:ByteArray
 Gone:Bool
 TS:Int
 DC:Int
 Tx:Int
structure T_api_Rec where
 TS:Int
 DC:Int
 Tx:Int
 Vers:(List T_api_Ver)
structure T_order_Log where
 list:(List T_api_Rec)
 waiting:(List T_api_Rec)
 bound:Int
structure T_inbox_Box where
 base:Int
 list:(List T_api_Rec)
 handed:Int
 done:(List Bool)
 hearts:(Mp Int Int)
 got:Int
structure T_api_Map where
 Cuts:(List ByteArray)
 Nodes:(List Int)
structure T_config_State where
 Pool:Int
 Nodes:Int
 Members:(List Bool)
 Maps:(List T_api_Map)
 Modes:(List Int)
structure T_api_Cmd where
 Kind:Int
 DC:Int
 Shard:Int
 Node:Int
 Mode:Int
 Key:ByteArray
structure T_api_Msg where
 Kind:Int
 Id:Int
 N:Int
 TS:Int
 Lo:ByteArray
 Hi:ByteArray
 Vers:(List T_api_Ver)
 Vec:(List Int)
 Cmd:T_api_Cmd
structure T_api_Mail where
 To:Int
 Msg:T_api_Msg
structure T_warden_Warden where
 now:T_config_State
 tail:T_config_State
 queue:(List T_api_Cmd)
 done:Int
 epoch:Int
 step_:Int
 wait:(List Bool)
 mark_:Int
 ready:Bool
 out:(List T_api_Mail)
structure T_coord_Share where
 Node:Int
 Vers:(List T_api_Ver)
structure T_coord_entry where
 low:Int
 shares:(List T_coord_Share)
 votes:(Mp Int Int)
 ended:(Mp Int Bool)
 at_:Int
 decided:Bool
structure T_coord_Table where
 open_:(Mp Int T_coord_entry)
structure T_gate_call where
 id:Int
 read:Bool
 key:ByteArray
 at_:Int
 writes:(List T_api_Ver)
structure T_gate_load where
 dc:Int
 at_:Int
 left:Int
 keys:(List ByteArray)
structure T_span_Shard where
 Lo:ByteArray
 Hi:ByteArray
 Node:Int
structure T_gate_move where
 span:T_span_Shard
 shard:Int
 to:Int
 step_:Int
structure T_api_Mark where
 TS:Int
 DC:Int
 Tx:Int
structure T_gate_Reply where
 Call:Int
 Kind:Int
 Old:Bool
 Has:Bool
 Ver:T_api_Ver
 Mark:T_api_Mark
structure T_gate_Gate where
 dc:Int
 nodes:Int
 role:Int
 epoch:Int
 base:Int
 txs:Int
 m:T_api_Map
 modes:(List Int)
 agreed:(List Bool)
 old:(List Int)
 owing:Bool
 st:(Option T_stab_Table)
 log:(Option T_order_Log)
 co:(Option T_coord_Table)
 hi:Int
 boxes:(List (Option T_inbox_Box))
 cursor:(List Int)
 heard:(List Int)
 calls:(Mp Int Int)
 reads:(Mp Int T_gate_call)
 held:(List T_gate_call)
 loads:(Mp Int T_gate_load)
 last:Int
 mv:(Option T_gate_move)
 seedTo:Int
 seeds:Int
 cut:(List Int)
 end_:(List Int)
 floor:Int
 floored:Bool
 seeded:Bool
 said:Bool
 out:(List T_api_Mail)
 replies:(List T_gate_Reply)
structure T_store_Store where
 chains:(Mp ByteArray (List T_api_Ver))
 floor:Int
structure T_part_Part where
 clock:Int
 open_:(Mp Int Int)
structure T_node_Node where
 dc:Int
 store:T_store_Store
 part:T_part_Part
 writes:(Mp Int (List T_api_Ver))
 owned:(List T_span_Shard)
 modes:(List Int)
structure T_net_Net where
 ways:Unit
 lost:Int
structure T_link_End where
 epoch:Int
 waiting:(List (List Int))
 sent:Int
 got:Int
 kept:(Mp Int (List Int))
structure T_session_Session where
 snap:Int
 dep:Int
 open_:Bool
 writes:(Mp ByteArray T_api_Ver)
 cache:(Mp ByteArray T_api_Ver)
structure T_cluster_Setup where
 Pool:Int
 Members:Int
 Nodes:Int
 Plain:Bool
structure T_cluster_Answer where
 Err:Int
 Wait:Bool
 Time:Int
 N:Int
 Found:Bool
 Val:ByteArray
structure T_cluster_client where
 Session:T_session_Session
 home:Int
 tx:Int
 busy:Int
 key:ByteArray
 last:T_cluster_Answer
structure T_hist_Read where
 Key:ByteArray
 Found:Bool
 Ver:T_api_Ver
structure T_hist_Tx where
 Client:Int
 Snap:Int
 State:Int
 Mark:T_api_Mark
 Reads:(List T_hist_Read)
 Writes:(List T_api_Ver)
structure T_cluster_Cluster where
 setup:T_cluster_Setup
 warden:Unit
 gates:(List (Option T_gate_Gate))
 nodes:Unit
 clocks:Unit
 ends:Unit
 net:Unit
 plain:Unit
 clients:(List T_cluster_client)
 txs:(List T_hist_Tx)
 commits:Int
structure T_cluster_Op where
 Kind:Int
 Who:Int
 A:Int
 B:Int
 N:Int
 Key:ByteArray
 Val:ByteArray
 Cmd:T_api_Cmd
structure T_script_Shell where
 c:(Option T_cluster_Cluster)
structure T_strings_Builder where
 addr:Bool
 buf:(List Int)
def f_api_Ver:FT T_api_Ver:=⟨6,fun x=>[.string (x.Key),.string (x.Val),.bool (x.Gone),.int .u64 (x.TS),.int .i64 (x.DC),.int .i64 (x.Tx)],fun _=>rfl,fun x v hv=>by
 simp only [List.mem_cons,List.not_mem_nil,or_false] at hv
 rcases hv with rfl|rfl|rfl|rfl|rfl|rfl<;>rfl⟩
def f_api_Cmd:FT T_api_Cmd:=⟨6,fun x=>[.int .i64 (x.Kind),.int .i64 (x.DC),.int .i64 (x.Shard),.int .i64 (x.Node),.int .i64 (x.Mode),.string (x.Key)],fun _=>rfl,fun x v hv=>by
 simp only [List.mem_cons,List.not_mem_nil,or_false] at hv
 rcases hv with rfl|rfl|rfl|rfl|rfl|rfl<;>rfl⟩
def f_span_Shard:FT T_span_Shard:=⟨3,fun x=>[.string (x.Lo),.string (x.Hi),.int .i64 (x.Node)],fun _=>rfl,fun x v hv=>by
 simp only [List.mem_cons,List.not_mem_nil,or_false] at hv
 rcases hv with rfl|rfl|rfl<;>rfl⟩
def f_gate_Reply:FT T_gate_Reply:=⟨13,fun x=>[.int .i64 (x.Call),.int .i64 (x.Kind),.bool (x.Old),.bool (x.Has),.string (x.Ver.Key),.string (x.Ver.Val),.bool (x.Ver.Gone),.int .u64 (x.Ver.TS),.int .i64 (x.Ver.DC),.int .i64 (x.Ver.Tx),.int .u64 (x.Mark.TS),.int .i64 (x.Mark.DC),.int .i64 (x.Mark.Tx)],fun _=>rfl,fun x v hv=>by
 simp only [List.mem_cons,List.not_mem_nil,or_false] at hv
 rcases hv with rfl|rfl|rfl|rfl|rfl|rfl|rfl|rfl|rfl|rfl|rfl|rfl|rfl<;>rfl⟩
def f_hist_Read:FT T_hist_Read:=⟨8,fun x=>[.string (x.Key),.bool (x.Found),.string (x.Ver.Key),.string (x.Ver.Val),.bool (x.Ver.Gone),.int .u64 (x.Ver.TS),.int .i64 (x.Ver.DC),.int .i64 (x.Ver.Tx)],fun _=>rfl,fun x v hv=>by
 simp only [List.mem_cons,List.not_mem_nil,or_false] at hv
 rcases hv with rfl|rfl|rfl|rfl|rfl|rfl|rfl|rfl<;>rfl⟩
def t_api_Rec:Ty T_api_Rec:=Ty.of (H:=Option Addr×Nat) 4 (fun h x=>[(1,[.int .u64 (x.TS)]),(1,[.int .i64 (x.DC)]),(1,[.int .i64 (x.Tx)]),(1,[.slice h.1 (x.Vers).length h.2])]) (fun h x=>[Ro.mp f_api_Ver.ty h.1 h.2 x.Vers]) (fun h x κ w hR=>by
 have hget : ∀(i:Nat) {m:MP},([Ro.mp f_api_Ver.ty h.1 h.2 x.Vers]:List MP)[i]? = some m→m.p κ w:=fun i m hi=>hR m (List.mem_of_getElem? hi)
 exact (sgN 4 sgNil)) (fun _ _=>by kernel_rfl)
def t_api_Map:Ty T_api_Map:=Ty.of (H:=Option Addr×Nat×Option Addr×Nat) 2 (fun h x=>[(1,[.slice h.1 (x.Cuts).length h.2.1]),(1,[.slice h.2.2.1 (x.Nodes).length h.2.2.2])]) (fun h x=>[Ro.mp fStr.ty h.1 h.2.1 x.Cuts,Ro.mp (fInt .i64).ty h.2.2.1 h.2.2.2 x.Nodes]) (fun h x κ w hR=>by
 have hget : ∀(i:Nat) {m:MP},([Ro.mp fStr.ty h.1 h.2.1 x.Cuts,Ro.mp (fInt .i64).ty h.2.2.1 h.2.2.2 x.Nodes]:List MP)[i]? = some m→m.p κ w:=fun i m hi=>hR m (List.mem_of_getElem? hi)
 exact (sgN 2 sgNil)) (fun _ _=>by kernel_rfl)
theorem z_api_Map (κ:Gh) (w:World):(t_api_Map).rep κ w (flat [(1,[.slice none 0 0]),(1,[.slice none 0 0])]) (T_api_Map.mk ([]:List ByteArray) ([]:List Int)):=
 ⟨(none,0,none,0),rfl,by
  intro m hm
  simp only [List.mem_cons,List.not_mem_nil,or_false] at hm
  rcases hm with rfl|rfl
  ·exact Ro.nil _ _ _
  ·exact Ro.nil _ _ _⟩
def t_api_Mail:Ty T_api_Mail:=Ty.of (H:=Option Addr×Nat×Option Addr×Nat) 15 (fun h x=>[(1,[.int .i64 (x.To)]),(1,[.int .i64 (x.Msg.Kind)]),(1,[.int .u64 (x.Msg.Id)]),(1,[.int .u64 (x.Msg.N)]),(1,[.int .u64 (x.Msg.TS)]),(1,[.string (x.Msg.Lo)]),(1,[.string (x.Msg.Hi)]),(1,[.slice h.1 (x.Msg.Vers).length h.2.1]),(1,[.slice h.2.2.1 (x.Msg.Vec).length h.2.2.2]),(1,[.int .i64 (x.Msg.Cmd.Kind)]),(1,[.int .i64 (x.Msg.Cmd.DC)]),(1,[.int .i64 (x.Msg.Cmd.Shard)]),(1,[.int .i64 (x.Msg.Cmd.Node)]),(1,[.int .i64 (x.Msg.Cmd.Mode)]),(1,[.string (x.Msg.Cmd.Key)])]) (fun h x=>[Ro.mp f_api_Ver.ty h.1 h.2.1 x.Msg.Vers,Ro.mp (fInt .u64).ty h.2.2.1 h.2.2.2 x.Msg.Vec]) (fun h x κ w hR=>by
 have hget : ∀(i:Nat) {m:MP},([Ro.mp f_api_Ver.ty h.1 h.2.1 x.Msg.Vers,Ro.mp (fInt .u64).ty h.2.2.1 h.2.2.2 x.Msg.Vec]:List MP)[i]? = some m→m.p κ w:=fun i m hi=>hR m (List.mem_of_getElem? hi)
 exact (sgN 15 sgNil)) (fun _ _=>by kernel_rfl)
def t_coord_Share:Ty T_coord_Share:=Ty.of (H:=Option Addr×Nat) 2 (fun h x=>[(1,[.int .i64 (x.Node)]),(1,[.slice h.1 (x.Vers).length h.2])]) (fun h x=>[Ro.mp f_api_Ver.ty h.1 h.2 x.Vers]) (fun h x κ w hR=>by
 have hget : ∀(i:Nat) {m:MP},([Ro.mp f_api_Ver.ty h.1 h.2 x.Vers]:List MP)[i]? = some m→m.p κ w:=fun i m hi=>hR m (List.mem_of_getElem? hi)
 exact (sgN 2 sgNil)) (fun _ _=>by kernel_rfl)
def t_gate_call:Ty T_gate_call:=Ty.of (H:=Option Addr×Nat) 5 (fun h x=>[(1,[.int .i64 (x.id)]),(1,[.bool (x.read)]),(1,[.string (x.key)]),(1,[.int .u64 (x.at_)]),(1,[.slice h.1 (x.writes).length h.2])]) (fun h x=>[Ro.mp f_api_Ver.ty h.1 h.2 x.writes]) (fun h x κ w hR=>by
 have hget : ∀(i:Nat) {m:MP},([Ro.mp f_api_Ver.ty h.1 h.2 x.writes]:List MP)[i]? = some m→m.p κ w:=fun i m hi=>hR m (List.mem_of_getElem? hi)
 exact (sgN 5 sgNil)) (fun _ _=>by kernel_rfl)
def t_gate_load:Ty T_gate_load:=Ty.of (H:=Option Addr×Nat) 4 (fun h x=>[(1,[.int .i64 (x.dc)]),(1,[.int .i64 (x.at_)]),(1,[.int .i64 (x.left)]),(1,[.slice h.1 (x.keys).length h.2])]) (fun h x=>[Ro.mp fStr.ty h.1 h.2 x.keys]) (fun h x κ w hR=>by
 have hget : ∀(i:Nat) {m:MP},([Ro.mp fStr.ty h.1 h.2 x.keys]:List MP)[i]? = some m→m.p κ w:=fun i m hi=>hR m (List.mem_of_getElem? hi)
 exact (sgN 4 sgNil)) (fun _ _=>by kernel_rfl)
def t_hist_Tx:Ty T_hist_Tx:=Ty.of (H:=Option Addr×Nat×Option Addr×Nat) 8 (fun h x=>[(1,[.int .i64 (x.Client)]),(1,[.int .u64 (x.Snap)]),(1,[.int .i64 (x.State)]),(1,[.int .u64 (x.Mark.TS)]),(1,[.int .i64 (x.Mark.DC)]),(1,[.int .i64 (x.Mark.Tx)]),(1,[.slice h.1 (x.Reads).length h.2.1]),(1,[.slice h.2.2.1 (x.Writes).length h.2.2.2])]) (fun h x=>[Ro.mp f_hist_Read.ty h.1 h.2.1 x.Reads,Ro.mp f_api_Ver.ty h.2.2.1 h.2.2.2 x.Writes]) (fun h x κ w hR=>by
 have hget : ∀(i:Nat) {m:MP},([Ro.mp f_hist_Read.ty h.1 h.2.1 x.Reads,Ro.mp f_api_Ver.ty h.2.2.1 h.2.2.2 x.Writes]:List MP)[i]? = some m→m.p κ w:=fun i m hi=>hR m (List.mem_of_getElem? hi)
 exact (sgN 8 sgNil)) (fun _ _=>by kernel_rfl)
def zm_cluster_client:T_cluster_client:=(T_cluster_client.mk (T_session_Session.mk 0 0 false none none) 0 0 0 ByteArray.empty (T_cluster_Answer.mk 0 false 0 0 false ByteArray.empty))
def c_stab_Table (b:Nat) (h:(Option Addr)×Nat) (x:T_stab_Table):List Ck:=[.box b 284 [(1,[.int .i64 (x.dc)]),(1,[.slice h.1 (x.beats).length h.2]),(1,[.int .i64 (x.got.Epoch)]),(4,(encs fBool x.got.Has)),(4,(encs (fInt .u64) x.got.T)),(1,[.int .i64 (x.known.Epoch)]),(4,(encs fBool x.known.Has)),(4,(encs (fInt .u64) x.known.T)),(1,[.int .u64 (x.stable)])],.ext (ownX (fInt .u64) 56 h.1 h.2 x.beats)]
def q_stab_Table (h:(Option Addr)×Nat) (x:T_stab_Table):List MP:=[MP.const (List.length x.got.Has=4),MP.const (List.length x.got.T=4),MP.const (List.length x.known.Has=4),MP.const (List.length x.known.T=4)]
def o_stab_Table:OT T_stab_Table:=OT.of c_stab_Table q_stab_Table
def c_coord_entry (b:Nat) (h:(Option Addr)×Nat×(Option Nat)×(Array MapEntry)×Nat×(Option Nat)×(Array MapEntry)×Nat) (x:T_coord_entry):List Ck:=[.box b 474 [(1,[.int .u64 (x.low)]),(1,[.slice h.1 (x.shares).length h.2.1]),(1,[.map h.2.2.1]),(1,[.map h.2.2.2.2.2.1]),(1,[.int .u64 (x.at_)]),(1,[.bool (x.decided)])],.ext (objX h.2.2.1 (.map h.2.2.2.1 h.2.2.2.2.1)),.ext (objX h.2.2.2.2.2.1 (.map h.2.2.2.2.2.2.1 h.2.2.2.2.2.2.2))]
def q_coord_entry (h:(Option Addr)×Nat×(Option Nat)×(Array MapEntry)×Nat×(Option Nat)×(Array MapEntry)×Nat) (x:T_coord_entry):List MP:=[Ro.mp t_coord_Share h.1 h.2.1 x.shares,Map.mp (kInt .i64) false (fInt .u64).ty h.2.2.1 h.2.2.2.1 h.2.2.2.2.1 x.votes,Map.mp (kInt .i64) false fBool.ty h.2.2.2.2.2.1 h.2.2.2.2.2.2.1 h.2.2.2.2.2.2.2 x.ended]
def o_coord_entry:OT T_coord_entry:=OT.of c_coord_entry q_coord_entry
def c_order_Log (b:Nat) (h:(Option Addr)×Nat×(Option Addr)×Nat) (x:T_order_Log):List Ck:=[.box b 354 [(1,[.slice h.1 (x.list).length h.2.1]),(1,[.slice h.2.2.1 (x.waiting).length h.2.2.2]),(1,[.int .u64 (x.bound)])],.tok h.1 425 4 (x.list).length h.2.1,.tok h.2.2.1 425 4 (x.waiting).length h.2.2.2]
def q_order_Log (h:(Option Addr)×Nat×(Option Addr)×Nat) (x:T_order_Log):List MP:=[Ro.mp t_api_Rec h.1 h.2.1 x.list,Ro.mp t_api_Rec h.2.2.1 h.2.2.2 x.waiting]
def o_order_Log:OT T_order_Log:=OT.of c_order_Log q_order_Log
def c_coord_Table (b:Nat) (h:(Option Nat)×(Array MapEntry)×Nat×(Mp Int (Option Nat))×(List Nat)) (x:T_coord_Table):List Ck:=[.box b 357 [(1,[.map h.1])],.ext (objX h.1 (.map h.2.1 h.2.2.1)),.ext (mpX o_coord_entry h.2.2.2.1 h.2.2.2.2 x.open_ none)]
def q_coord_Table (h:(Option Nat)×(Array MapEntry)×Nat×(Mp Int (Option Nat))×(List Nat)) (x:T_coord_Table):List MP:=[Map.mp (kInt .u64) false fPtr.ty h.1 h.2.1 h.2.2.1 h.2.2.2.1]
def o_coord_Table:OT T_coord_Table:=OT.of c_coord_Table q_coord_Table
def c_inbox_Box (b:Nat) (h:(Option Addr)×Nat×(Option Addr)×Nat×(Option Nat)×(Array MapEntry)×Nat) (x:T_inbox_Box):List Ck:=[.box b 290 [(1,[.int .i64 (x.base)]),(1,[.slice h.1 (x.list).length h.2.1]),(1,[.int .i64 (x.handed)]),(1,[.slice h.2.2.1 (x.done).length h.2.2.2.1]),(1,[.map h.2.2.2.2.1]),(1,[.int .u64 (x.got)])],.tok h.1 425 4 (x.list).length h.2.1,.ext (ownX fBool 4 h.2.2.1 h.2.2.2.1 x.done),.ext (objX h.2.2.2.2.1 (.map h.2.2.2.2.2.1 h.2.2.2.2.2.2))]
def q_inbox_Box (h:(Option Addr)×Nat×(Option Addr)×Nat×(Option Nat)×(Array MapEntry)×Nat) (x:T_inbox_Box):List MP:=[Ro.mp t_api_Rec h.1 h.2.1 x.list,Map.mp (kInt .i64) false (fInt .u64).ty h.2.2.2.2.1 h.2.2.2.2.2.1 h.2.2.2.2.2.2 x.hearts]
def o_inbox_Box:OT T_inbox_Box:=OT.of c_inbox_Box q_inbox_Box
def c_gate_move (b:Nat) (h:Unit) (x:T_gate_move):List Ck:=[.box b 422 [(1,[.string (x.span.Lo)]),(1,[.string (x.span.Hi)]),(1,[.int .i64 (x.span.Node)]),(1,[.int .i64 (x.shard)]),(1,[.int .i64 (x.to)]),(1,[.int .i64 (x.step_)])]]
def q_gate_move (h:Unit) (x:T_gate_move):List MP:=[]
def o_gate_move:OT T_gate_move:=OT.of c_gate_move q_gate_move
def c_gate_Gate (b:Nat) (h:(Option Addr)×Nat×(Option Addr)×Nat×(Option Addr)×Nat×(Option Addr)×Nat×(Option Addr)×Nat×(Option Nat)×(List Nat)×(Option Nat)×(List Nat)×(Option Nat)×(List Nat)×(List (Option Nat))×(List Nat)×(Option Nat)×(Array MapEntry)×Nat×(Option Nat)×(Array MapEntry)×Nat×(Option Addr)×Nat×(Option Nat)×(Array MapEntry)×Nat×(Option Nat)×(List Nat)×(Option Addr)×Nat×(Option Addr)×Nat×(Option Addr)×Nat×(Option Addr)×Nat) (x:T_gate_Gate):List Ck:=[.box b 184 [(1,[.int .i64 (x.dc)]),(1,[.int .i64 (x.nodes)]),(1,[.int .i64 (x.role)]),(1,[.int .i64 (x.epoch)]),(1,[.int .i64 (x.base)]),(1,[.int .i64 (x.txs)]),(1,[.slice h.1 (x.m.Cuts).length h.2.1]),(1,[.slice h.2.2.1 (x.m.Nodes).length h.2.2.2.1]),(1,[.slice h.2.2.2.2.1 (x.modes).length h.2.2.2.2.2.1]),(1,[.slice h.2.2.2.2.2.2.1 (x.agreed).length h.2.2.2.2.2.2.2.1]),(1,[.slice h.2.2.2.2.2.2.2.2.1 (x.old).length h.2.2.2.2.2.2.2.2.2.1]),(1,[.bool (x.owing)]),(1,[.pointer (pa h.2.2.2.2.2.2.2.2.2.2.1)]),(1,[.pointer (pa h.2.2.2.2.2.2.2.2.2.2.2.2.1)]),(1,[.pointer (pa h.2.2.2.2.2.2.2.2.2.2.2.2.2.2.1)]),(1,[.int .u64 (x.hi)]),(4,(encs fPtr h.2.2.2.2.2.2.2.2.2.2.2.2.2.2.2.2.1)),(4,(encs (fInt .i64) x.cursor)),(4,(encs (fInt .i64) x.heard)),(1,[.map h.2.2.2.2.2.2.2.2.2.2.2.2.2.2.2.2.2.2.1]),(1,[.map h.2.2.2.2.2.2.2.2.2.2.2.2.2.2.2.2.2.2.2.2.2.1]),(1,[.slice h.2.2.2.2.2.2.2.2.2.2.2.2.2.2.2.2.2.2.2.2.2.2.2.2.1 (x.held).length h.2.2.2.2.2.2.2.2.2.2.2.2.2.2.2.2.2.2.2.2.2.2.2.2.2.1]),(1,[.map h.2.2.2.2.2.2.2.2.2.2.2.2.2.2.2.2.2.2.2.2.2.2.2.2.2.2.1]),(1,[.int .u64 (x.last)]),(1,[.pointer (pa h.2.2.2.2.2.2.2.2.2.2.2.2.2.2.2.2.2.2.2.2.2.2.2.2.2.2.2.2.2.1)]),(1,[.int .i64 (x.seedTo)]),(1,[.int .i64 (x.seeds)]),(1,[.slice h.2.2.2.2.2.2.2.2.2.2.2.2.2.2.2.2.2.2.2.2.2.2.2.2.2.2.2.2.2.2.2.1 (x.cut).length h.2.2.2.2.2.2.2.2.2.2.2.2.2.2.2.2.2.2.2.2.2.2.2.2.2.2.2.2.2.2.2.2.1]),(1,[.slice h.2.2.2.2.2.2.2.2.2.2.2.2.2.2.2.2.2.2.2.2.2.2.2.2.2.2.2.2.2.2.2.2.2.1 (x.end_).length h.2.2.2.2.2.2.2.2.2.2.2.2.2.2.2.2.2.2.2.2.2.2.2.2.2.2.2.2.2.2.2.2.2.2.1]),(1,[.int .u64 (x.floor)]),(1,[.bool (x.floored)]),(1,[.bool (x.seeded)]),(1,[.bool (x.said)]),(1,[.slice h.2.2.2.2.2.2.2.2.2.2.2.2.2.2.2.2.2.2.2.2.2.2.2.2.2.2.2.2.2.2.2.2.2.2.2.1 (x.out).length h.2.2.2.2.2.2.2.2.2.2.2.2.2.2.2.2.2.2.2.2.2.2.2.2.2.2.2.2.2.2.2.2.2.2.2.2.1]),(1,[.slice h.2.2.2.2.2.2.2.2.2.2.2.2.2.2.2.2.2.2.2.2.2.2.2.2.2.2.2.2.2.2.2.2.2.2.2.2.2.1 (x.replies).length h.2.2.2.2.2.2.2.2.2.2.2.2.2.2.2.2.2.2.2.2.2.2.2.2.2.2.2.2.2.2.2.2.2.2.2.2.2.2])],.tok h.2.2.2.2.2.2.2.2.2.2.2.2.2.2.2.2.2.2.2.2.2.2.2.2.1 395 5 (x.held).length h.2.2.2.2.2.2.2.2.2.2.2.2.2.2.2.2.2.2.2.2.2.2.2.2.2.1,.tok h.2.2.2.2.2.2.2.2.2.2.2.2.2.2.2.2.2.2.2.2.2.2.2.2.2.2.2.2.2.2.2.1 56 1 (x.cut).length h.2.2.2.2.2.2.2.2.2.2.2.2.2.2.2.2.2.2.2.2.2.2.2.2.2.2.2.2.2.2.2.2.1,.tok h.2.2.2.2.2.2.2.2.2.2.2.2.2.2.2.2.2.2.2.2.2.2.2.2.2.2.2.2.2.2.2.2.2.1 56 1 (x.end_).length h.2.2.2.2.2.2.2.2.2.2.2.2.2.2.2.2.2.2.2.2.2.2.2.2.2.2.2.2.2.2.2.2.2.2.1,.tok h.2.2.2.2.2.2.2.2.2.2.2.2.2.2.2.2.2.2.2.2.2.2.2.2.2.2.2.2.2.2.2.2.2.2.2.1 329 15 (x.out).length h.2.2.2.2.2.2.2.2.2.2.2.2.2.2.2.2.2.2.2.2.2.2.2.2.2.2.2.2.2.2.2.2.2.2.2.2.1,.tok h.2.2.2.2.2.2.2.2.2.2.2.2.2.2.2.2.2.2.2.2.2.2.2.2.2.2.2.2.2.2.2.2.2.2.2.2.2.1 243 13 (x.replies).length h.2.2.2.2.2.2.2.2.2.2.2.2.2.2.2.2.2.2.2.2.2.2.2.2.2.2.2.2.2.2.2.2.2.2.2.2.2.2,.ext (ownX (fInt .i64) 3 h.2.2.2.2.1 h.2.2.2.2.2.1 x.modes),.ext (ownX fBool 4 h.2.2.2.2.2.2.1 h.2.2.2.2.2.2.2.1 x.agreed),.ext (ownX (fInt .i64) 3 h.2.2.2.2.2.2.2.2.1 h.2.2.2.2.2.2.2.2.2.1 x.old),.ext (optX o_stab_Table h.2.2.2.2.2.2.2.2.2.2.1 h.2.2.2.2.2.2.2.2.2.2.2.1 x.st),.ext (optX o_order_Log h.2.2.2.2.2.2.2.2.2.2.2.2.1 h.2.2.2.2.2.2.2.2.2.2.2.2.2.1 x.log),.ext (optX o_coord_Table h.2.2.2.2.2.2.2.2.2.2.2.2.2.2.1 h.2.2.2.2.2.2.2.2.2.2.2.2.2.2.2.1 x.co),.ext (arrX o_inbox_Box h.2.2.2.2.2.2.2.2.2.2.2.2.2.2.2.2.1 h.2.2.2.2.2.2.2.2.2.2.2.2.2.2.2.2.2.1 x.boxes),.ext (objX h.2.2.2.2.2.2.2.2.2.2.2.2.2.2.2.2.2.2.1 (.map h.2.2.2.2.2.2.2.2.2.2.2.2.2.2.2.2.2.2.2.1 h.2.2.2.2.2.2.2.2.2.2.2.2.2.2.2.2.2.2.2.2.1)),.ext (objX h.2.2.2.2.2.2.2.2.2.2.2.2.2.2.2.2.2.2.2.2.2.1 (.map h.2.2.2.2.2.2.2.2.2.2.2.2.2.2.2.2.2.2.2.2.2.2.1 h.2.2.2.2.2.2.2.2.2.2.2.2.2.2.2.2.2.2.2.2.2.2.2.1)),.ext (objX h.2.2.2.2.2.2.2.2.2.2.2.2.2.2.2.2.2.2.2.2.2.2.2.2.2.2.1 (.map h.2.2.2.2.2.2.2.2.2.2.2.2.2.2.2.2.2.2.2.2.2.2.2.2.2.2.2.1 h.2.2.2.2.2.2.2.2.2.2.2.2.2.2.2.2.2.2.2.2.2.2.2.2.2.2.2.2.1)),.ext (optX o_gate_move h.2.2.2.2.2.2.2.2.2.2.2.2.2.2.2.2.2.2.2.2.2.2.2.2.2.2.2.2.2.1 h.2.2.2.2.2.2.2.2.2.2.2.2.2.2.2.2.2.2.2.2.2.2.2.2.2.2.2.2.2.2.1 x.mv)]
def q_gate_Gate (h:(Option Addr)×Nat×(Option Addr)×Nat×(Option Addr)×Nat×(Option Addr)×Nat×(Option Addr)×Nat×(Option Nat)×(List Nat)×(Option Nat)×(List Nat)×(Option Nat)×(List Nat)×(List (Option Nat))×(List Nat)×(Option Nat)×(Array MapEntry)×Nat×(Option Nat)×(Array MapEntry)×Nat×(Option Addr)×Nat×(Option Nat)×(Array MapEntry)×Nat×(Option Nat)×(List Nat)×(Option Addr)×Nat×(Option Addr)×Nat×(Option Addr)×Nat×(Option Addr)×Nat) (x:T_gate_Gate):List MP:=[Ro.mp fStr.ty h.1 h.2.1 x.m.Cuts,Ro.mp (fInt .i64).ty h.2.2.1 h.2.2.2.1 x.m.Nodes,MP.const (List.length h.2.2.2.2.2.2.2.2.2.2.2.2.2.2.2.2.1=4),MP.const (List.length x.cursor=4),MP.const (List.length x.heard=4),Map.mp (kInt .u64) false (fInt .i64).ty h.2.2.2.2.2.2.2.2.2.2.2.2.2.2.2.2.2.2.1 h.2.2.2.2.2.2.2.2.2.2.2.2.2.2.2.2.2.2.2.1 h.2.2.2.2.2.2.2.2.2.2.2.2.2.2.2.2.2.2.2.2.1 x.calls,Map.mp (kInt .u64) true t_gate_call h.2.2.2.2.2.2.2.2.2.2.2.2.2.2.2.2.2.2.2.2.2.1 h.2.2.2.2.2.2.2.2.2.2.2.2.2.2.2.2.2.2.2.2.2.2.1 h.2.2.2.2.2.2.2.2.2.2.2.2.2.2.2.2.2.2.2.2.2.2.2.1 x.reads,Ro.mp t_gate_call h.2.2.2.2.2.2.2.2.2.2.2.2.2.2.2.2.2.2.2.2.2.2.2.2.1 h.2.2.2.2.2.2.2.2.2.2.2.2.2.2.2.2.2.2.2.2.2.2.2.2.2.1 x.held,Map.mp (kInt .u64) true t_gate_load h.2.2.2.2.2.2.2.2.2.2.2.2.2.2.2.2.2.2.2.2.2.2.2.2.2.2.1 h.2.2.2.2.2.2.2.2.2.2.2.2.2.2.2.2.2.2.2.2.2.2.2.2.2.2.2.1 h.2.2.2.2.2.2.2.2.2.2.2.2.2.2.2.2.2.2.2.2.2.2.2.2.2.2.2.2.1 x.loads,Ro.mp (fInt .u64).ty h.2.2.2.2.2.2.2.2.2.2.2.2.2.2.2.2.2.2.2.2.2.2.2.2.2.2.2.2.2.2.2.1 h.2.2.2.2.2.2.2.2.2.2.2.2.2.2.2.2.2.2.2.2.2.2.2.2.2.2.2.2.2.2.2.2.1 x.cut,Ro.mp (fInt .u64).ty h.2.2.2.2.2.2.2.2.2.2.2.2.2.2.2.2.2.2.2.2.2.2.2.2.2.2.2.2.2.2.2.2.2.1 h.2.2.2.2.2.2.2.2.2.2.2.2.2.2.2.2.2.2.2.2.2.2.2.2.2.2.2.2.2.2.2.2.2.2.1 x.end_,Ro.mp t_api_Mail h.2.2.2.2.2.2.2.2.2.2.2.2.2.2.2.2.2.2.2.2.2.2.2.2.2.2.2.2.2.2.2.2.2.2.2.1 h.2.2.2.2.2.2.2.2.2.2.2.2.2.2.2.2.2.2.2.2.2.2.2.2.2.2.2.2.2.2.2.2.2.2.2.2.1 x.out,Ro.mp f_gate_Reply.ty h.2.2.2.2.2.2.2.2.2.2.2.2.2.2.2.2.2.2.2.2.2.2.2.2.2.2.2.2.2.2.2.2.2.2.2.2.2.1 h.2.2.2.2.2.2.2.2.2.2.2.2.2.2.2.2.2.2.2.2.2.2.2.2.2.2.2.2.2.2.2.2.2.2.2.2.2.2 x.replies]
def o_gate_Gate:OT T_gate_Gate:=OT.of c_gate_Gate q_gate_Gate
def c_cluster_Cluster (b:Nat) (h:(List Value)×(List (Option Nat))×(List Nat)×(List Value)×(List Value)×(List Value)×(List Value)×(List Value)×Nat×(Option Nat)×(Array MapEntry)×Nat×(Option Nat)×(Array MapEntry)×Nat×Nat×(Option Nat)×(Array MapEntry)×Nat×(Option Nat)×(Array MapEntry)×Nat×Nat×(Option Nat)×(Array MapEntry)×Nat×(Option Nat)×(Array MapEntry)×Nat×Nat×(Option Nat)×(Array MapEntry)×Nat×(Option Nat)×(Array MapEntry)×Nat×Nat×(Option Nat)×(Array MapEntry)×Nat×(Option Nat)×(Array MapEntry)×Nat×Nat×(Option Nat)×(Array MapEntry)×Nat×(Option Nat)×(Array MapEntry)×Nat×(Option Addr)×Nat) (x:T_cluster_Cluster):List Ck:=[.box b 103 [(1,[.int .i64 (x.setup.Pool)]),(1,[.int .i64 (x.setup.Members)]),(1,[.int .i64 (x.setup.Nodes)]),(1,[.bool (x.setup.Plain)]),(1,h.1),(4,(encs fPtr h.2.1)),(21,h.2.2.2.1),(21,h.2.2.2.2.1),(441,h.2.2.2.2.2.1),(1,h.2.2.2.2.2.2.1),(1,h.2.2.2.2.2.2.2.1),(1,[.pointer (some ⟨h.2.2.2.2.2.2.2.2.1,0,none⟩)]),(1,[.int .i64 ((x.clients.getD 0 zm_cluster_client).home)]),(1,[.int .i64 ((x.clients.getD 0 zm_cluster_client).tx)]),(1,[.int .i64 ((x.clients.getD 0 zm_cluster_client).busy)]),(1,[.string ((x.clients.getD 0 zm_cluster_client).key)]),(1,[.int .i64 (((x.clients.getD 0 zm_cluster_client).last).Err)]),(1,[.bool (((x.clients.getD 0 zm_cluster_client).last).Wait)]),(1,[.int .u64 (((x.clients.getD 0 zm_cluster_client).last).Time)]),(1,[.int .i64 (((x.clients.getD 0 zm_cluster_client).last).N)]),(1,[.bool (((x.clients.getD 0 zm_cluster_client).last).Found)]),(1,[.string (((x.clients.getD 0 zm_cluster_client).last).Val)]),(1,[.pointer (some ⟨h.2.2.2.2.2.2.2.2.2.2.2.2.2.2.2.1,0,none⟩)]),(1,[.int .i64 ((x.clients.getD 1 zm_cluster_client).home)]),(1,[.int .i64 ((x.clients.getD 1 zm_cluster_client).tx)]),(1,[.int .i64 ((x.clients.getD 1 zm_cluster_client).busy)]),(1,[.string ((x.clients.getD 1 zm_cluster_client).key)]),(1,[.int .i64 (((x.clients.getD 1 zm_cluster_client).last).Err)]),(1,[.bool (((x.clients.getD 1 zm_cluster_client).last).Wait)]),(1,[.int .u64 (((x.clients.getD 1 zm_cluster_client).last).Time)]),(1,[.int .i64 (((x.clients.getD 1 zm_cluster_client).last).N)]),(1,[.bool (((x.clients.getD 1 zm_cluster_client).last).Found)]),(1,[.string (((x.clients.getD 1 zm_cluster_client).last).Val)]),(1,[.pointer (some ⟨h.2.2.2.2.2.2.2.2.2.2.2.2.2.2.2.2.2.2.2.2.2.2.1,0,none⟩)]),(1,[.int .i64 ((x.clients.getD 2 zm_cluster_client).home)]),(1,[.int .i64 ((x.clients.getD 2 zm_cluster_client).tx)]),(1,[.int .i64 ((x.clients.getD 2 zm_cluster_client).busy)]),(1,[.string ((x.clients.getD 2 zm_cluster_client).key)]),(1,[.int .i64 (((x.clients.getD 2 zm_cluster_client).last).Err)]),(1,[.bool (((x.clients.getD 2 zm_cluster_client).last).Wait)]),(1,[.int .u64 (((x.clients.getD 2 zm_cluster_client).last).Time)]),(1,[.int .i64 (((x.clients.getD 2 zm_cluster_client).last).N)]),(1,[.bool (((x.clients.getD 2 zm_cluster_client).last).Found)]),(1,[.string (((x.clients.getD 2 zm_cluster_client).last).Val)]),(1,[.pointer (some ⟨h.2.2.2.2.2.2.2.2.2.2.2.2.2.2.2.2.2.2.2.2.2.2.2.2.2.2.2.2.2.1,0,none⟩)]),(1,[.int .i64 ((x.clients.getD 3 zm_cluster_client).home)]),(1,[.int .i64 ((x.clients.getD 3 zm_cluster_client).tx)]),(1,[.int .i64 ((x.clients.getD 3 zm_cluster_client).busy)]),(1,[.string ((x.clients.getD 3 zm_cluster_client).key)]),(1,[.int .i64 (((x.clients.getD 3 zm_cluster_client).last).Err)]),(1,[.bool (((x.clients.getD 3 zm_cluster_client).last).Wait)]),(1,[.int .u64 (((x.clients.getD 3 zm_cluster_client).last).Time)]),(1,[.int .i64 (((x.clients.getD 3 zm_cluster_client).last).N)]),(1,[.bool (((x.clients.getD 3 zm_cluster_client).last).Found)]),(1,[.string (((x.clients.getD 3 zm_cluster_client).last).Val)]),(1,[.pointer (some ⟨h.2.2.2.2.2.2.2.2.2.2.2.2.2.2.2.2.2.2.2.2.2.2.2.2.2.2.2.2.2.2.2.2.2.2.2.2.1,0,none⟩)]),(1,[.int .i64 ((x.clients.getD 4 zm_cluster_client).home)]),(1,[.int .i64 ((x.clients.getD 4 zm_cluster_client).tx)]),(1,[.int .i64 ((x.clients.getD 4 zm_cluster_client).busy)]),(1,[.string ((x.clients.getD 4 zm_cluster_client).key)]),(1,[.int .i64 (((x.clients.getD 4 zm_cluster_client).last).Err)]),(1,[.bool (((x.clients.getD 4 zm_cluster_client).last).Wait)]),(1,[.int .u64 (((x.clients.getD 4 zm_cluster_client).last).Time)]),(1,[.int .i64 (((x.clients.getD 4 zm_cluster_client).last).N)]),(1,[.bool (((x.clients.getD 4 zm_cluster_client).last).Found)]),(1,[.string (((x.clients.getD 4 zm_cluster_client).last).Val)]),(1,[.pointer (some ⟨h.2.2.2.2.2.2.2.2.2.2.2.2.2.2.2.2.2.2.2.2.2.2.2.2.2.2.2.2.2.2.2.2.2.2.2.2.2.2.2.2.2.2.2.1,0,none⟩)]),(1,[.int .i64 ((x.clients.getD 5 zm_cluster_client).home)]),(1,[.int .i64 ((x.clients.getD 5 zm_cluster_client).tx)]),(1,[.int .i64 ((x.clients.getD 5 zm_cluster_client).busy)]),(1,[.string ((x.clients.getD 5 zm_cluster_client).key)]),(1,[.int .i64 (((x.clients.getD 5 zm_cluster_client).last).Err)]),(1,[.bool (((x.clients.getD 5 zm_cluster_client).last).Wait)]),(1,[.int .u64 (((x.clients.getD 5 zm_cluster_client).last).Time)]),(1,[.int .i64 (((x.clients.getD 5 zm_cluster_client).last).N)]),(1,[.bool (((x.clients.getD 5 zm_cluster_client).last).Found)]),(1,[.string (((x.clients.getD 5 zm_cluster_client).last).Val)]),(1,[.slice h.2.2.2.2.2.2.2.2.2.2.2.2.2.2.2.2.2.2.2.2.2.2.2.2.2.2.2.2.2.2.2.2.2.2.2.2.2.2.2.2.2.2.2.2.2.2.2.2.2.2.1 (x.txs).length h.2.2.2.2.2.2.2.2.2.2.2.2.2.2.2.2.2.2.2.2.2.2.2.2.2.2.2.2.2.2.2.2.2.2.2.2.2.2.2.2.2.2.2.2.2.2.2.2.2.2.2]),(1,[.int .i64 (x.commits)])],.tok h.2.2.2.2.2.2.2.2.2.2.2.2.2.2.2.2.2.2.2.2.2.2.2.2.2.2.2.2.2.2.2.2.2.2.2.2.2.2.2.2.2.2.2.2.2.2.2.2.2.2.1 255 8 (x.txs).length h.2.2.2.2.2.2.2.2.2.2.2.2.2.2.2.2.2.2.2.2.2.2.2.2.2.2.2.2.2.2.2.2.2.2.2.2.2.2.2.2.2.2.2.2.2.2.2.2.2.2.2,.ext (arrX o_gate_Gate h.2.1 h.2.2.1 x.gates),.box h.2.2.2.2.2.2.2.2.1 215 [(1,[.int .u64 (((x.clients.getD 0 zm_cluster_client).Session).snap)]),(1,[.int .u64 (((x.clients.getD 0 zm_cluster_client).Session).dep)]),(1,[.bool (((x.clients.getD 0 zm_cluster_client).Session).open_)]),(1,[.map h.2.2.2.2.2.2.2.2.2.1]),(1,[.map h.2.2.2.2.2.2.2.2.2.2.2.2.1])],.ext (objX h.2.2.2.2.2.2.2.2.2.1 (.map h.2.2.2.2.2.2.2.2.2.2.1 h.2.2.2.2.2.2.2.2.2.2.2.1)),.ext (objX h.2.2.2.2.2.2.2.2.2.2.2.2.1 (.map h.2.2.2.2.2.2.2.2.2.2.2.2.2.1 h.2.2.2.2.2.2.2.2.2.2.2.2.2.2.1)),.box h.2.2.2.2.2.2.2.2.2.2.2.2.2.2.2.1 215 [(1,[.int .u64 (((x.clients.getD 1 zm_cluster_client).Session).snap)]),(1,[.int .u64 (((x.clients.getD 1 zm_cluster_client).Session).dep)]),(1,[.bool (((x.clients.getD 1 zm_cluster_client).Session).open_)]),(1,[.map h.2.2.2.2.2.2.2.2.2.2.2.2.2.2.2.2.1]),(1,[.map h.2.2.2.2.2.2.2.2.2.2.2.2.2.2.2.2.2.2.2.1])],.ext (objX h.2.2.2.2.2.2.2.2.2.2.2.2.2.2.2.2.1 (.map h.2.2.2.2.2.2.2.2.2.2.2.2.2.2.2.2.2.1 h.2.2.2.2.2.2.2.2.2.2.2.2.2.2.2.2.2.2.1)),.ext (objX h.2.2.2.2.2.2.2.2.2.2.2.2.2.2.2.2.2.2.2.1 (.map h.2.2.2.2.2.2.2.2.2.2.2.2.2.2.2.2.2.2.2.2.1 h.2.2.2.2.2.2.2.2.2.2.2.2.2.2.2.2.2.2.2.2.2.1)),.box h.2.2.2.2.2.2.2.2.2.2.2.2.2.2.2.2.2.2.2.2.2.2.1 215 [(1,[.int .u64 (((x.clients.getD 2 zm_cluster_client).Session).snap)]),(1,[.int .u64 (((x.clients.getD 2 zm_cluster_client).Session).dep)]),(1,[.bool (((x.clients.getD 2 zm_cluster_client).Session).open_)]),(1,[.map h.2.2.2.2.2.2.2.2.2.2.2.2.2.2.2.2.2.2.2.2.2.2.2.1]),(1,[.map h.2.2.2.2.2.2.2.2.2.2.2.2.2.2.2.2.2.2.2.2.2.2.2.2.2.2.1])],.ext (objX h.2.2.2.2.2.2.2.2.2.2.2.2.2.2.2.2.2.2.2.2.2.2.2.1 (.map h.2.2.2.2.2.2.2.2.2.2.2.2.2.2.2.2.2.2.2.2.2.2.2.2.1 h.2.2.2.2.2.2.2.2.2.2.2.2.2.2.2.2.2.2.2.2.2.2.2.2.2.1)),.ext (objX h.2.2.2.2.2.2.2.2.2.2.2.2.2.2.2.2.2.2.2.2.2.2.2.2.2.2.1 (.map h.2.2.2.2.2.2.2.2.2.2.2.2.2.2.2.2.2.2.2.2.2.2.2.2.2.2.2.1 h.2.2.2.2.2.2.2.2.2.2.2.2.2.2.2.2.2.2.2.2.2.2.2.2.2.2.2.2.1)),.box h.2.2.2.2.2.2.2.2.2.2.2.2.2.2.2.2.2.2.2.2.2.2.2.2.2.2.2.2.2.1 215 [(1,[.int .u64 (((x.clients.getD 3 zm_cluster_client).Session).snap)]),(1,[.int .u64 (((x.clients.getD 3 zm_cluster_client).Session).dep)]),(1,[.bool (((x.clients.getD 3 zm_cluster_client).Session).open_)]),(1,[.map h.2.2.2.2.2.2.2.2.2.2.2.2.2.2.2.2.2.2.2.2.2.2.2.2.2.2.2.2.2.2.1]),(1,[.map h.2.2.2.2.2.2.2.2.2.2.2.2.2.2.2.2.2.2.2.2.2.2.2.2.2.2.2.2.2.2.2.2.2.1])],.ext (objX h.2.2.2.2.2.2.2.2.2.2.2.2.2.2.2.2.2.2.2.2.2.2.2.2.2.2.2.2.2.2.1 (.map h.2.2.2.2.2.2.2.2.2.2.2.2.2.2.2.2.2.2.2.2.2.2.2.2.2.2.2.2.2.2.2.1 h.2.2.2.2.2.2.2.2.2.2.2.2.2.2.2.2.2.2.2.2.2.2.2.2.2.2.2.2.2.2.2.2.1)),.ext (objX h.2.2.2.2.2.2.2.2.2.2.2.2.2.2.2.2.2.2.2.2.2.2.2.2.2.2.2.2.2.2.2.2.2.1 (.map h.2.2.2.2.2.2.2.2.2.2.2.2.2.2.2.2.2.2.2.2.2.2.2.2.2.2.2.2.2.2.2.2.2.2.1 h.2.2.2.2.2.2.2.2.2.2.2.2.2.2.2.2.2.2.2.2.2.2.2.2.2.2.2.2.2.2.2.2.2.2.2.1)),.box h.2.2.2.2.2.2.2.2.2.2.2.2.2.2.2.2.2.2.2.2.2.2.2.2.2.2.2.2.2.2.2.2.2.2.2.2.1 215 [(1,[.int .u64 (((x.clients.getD 4 zm_cluster_client).Session).snap)]),(1,[.int .u64 (((x.clients.getD 4 zm_cluster_client).Session).dep)]),(1,[.bool (((x.clients.getD 4 zm_cluster_client).Session).open_)]),(1,[.map h.2.2.2.2.2.2.2.2.2.2.2.2.2.2.2.2.2.2.2.2.2.2.2.2.2.2.2.2.2.2.2.2.2.2.2.2.2.1]),(1,[.map h.2.2.2.2.2.2.2.2.2.2.2.2.2.2.2.2.2.2.2.2.2.2.2.2.2.2.2.2.2.2.2.2.2.2.2.2.2.2.2.2.1])],.ext (objX h.2.2.2.2.2.2.2.2.2.2.2.2.2.2.2.2.2.2.2.2.2.2.2.2.2.2.2.2.2.2.2.2.2.2.2.2.2.1 (.map h.2.2.2.2.2.2.2.2.2.2.2.2.2.2.2.2.2.2.2.2.2.2.2.2.2.2.2.2.2.2.2.2.2.2.2.2.2.2.1 h.2.2.2.2.2.2.2.2.2.2.2.2.2.2.2.2.2.2.2.2.2.2.2.2.2.2.2.2.2.2.2.2.2.2.2.2.2.2.2.1)),.ext (objX h.2.2.2.2.2.2.2.2.2.2.2.2.2.2.2.2.2.2.2.2.2.2.2.2.2.2.2.2.2.2.2.2.2.2.2.2.2.2.2.2.1 (.map h.2.2.2.2.2.2.2.2.2.2.2.2.2.2.2.2.2.2.2.2.2.2.2.2.2.2.2.2.2.2.2.2.2.2.2.2.2.2.2.2.2.1 h.2.2.2.2.2.2.2.2.2.2.2.2.2.2.2.2.2.2.2.2.2.2.2.2.2.2.2.2.2.2.2.2.2.2.2.2.2.2.2.2.2.2.1)),.box h.2.2.2.2.2.2.2.2.2.2.2.2.2.2.2.2.2.2.2.2.2.2.2.2.2.2.2.2.2.2.2.2.2.2.2.2.2.2.2.2.2.2.2.1 215 [(1,[.int .u64 (((x.clients.getD 5 zm_cluster_client).Session).snap)]),(1,[.int .u64 (((x.clients.getD 5 zm_cluster_client).Session).dep)]),(1,[.bool (((x.clients.getD 5 zm_cluster_client).Session).open_)]),(1,[.map h.2.2.2.2.2.2.2.2.2.2.2.2.2.2.2.2.2.2.2.2.2.2.2.2.2.2.2.2.2.2.2.2.2.2.2.2.2.2.2.2.2.2.2.2.1]),(1,[.map h.2.2.2.2.2.2.2.2.2.2.2.2.2.2.2.2.2.2.2.2.2.2.2.2.2.2.2.2.2.2.2.2.2.2.2.2.2.2.2.2.2.2.2.2.2.2.2.1])],.ext (objX h.2.2.2.2.2.2.2.2.2.2.2.2.2.2.2.2.2.2.2.2.2.2.2.2.2.2.2.2.2.2.2.2.2.2.2.2.2.2.2.2.2.2.2.2.1 (.map h.2.2.2.2.2.2.2.2.2.2.2.2.2.2.2.2.2.2.2.2.2.2.2.2.2.2.2.2.2.2.2.2.2.2.2.2.2.2.2.2.2.2.2.2.2.1 h.2.2.2.2.2.2.2.2.2.2.2.2.2.2.2.2.2.2.2.2.2.2.2.2.2.2.2.2.2.2.2.2.2.2.2.2.2.2.2.2.2.2.2.2.2.2.1)),.ext (objX h.2.2.2.2.2.2.2.2.2.2.2.2.2.2.2.2.2.2.2.2.2.2.2.2.2.2.2.2.2.2.2.2.2.2.2.2.2.2.2.2.2.2.2.2.2.2.2.1 (.map h.2.2.2.2.2.2.2.2.2.2.2.2.2.2.2.2.2.2.2.2.2.2.2.2.2.2.2.2.2.2.2.2.2.2.2.2.2.2.2.2.2.2.2.2.2.2.2.2.1 h.2.2.2.2.2.2.2.2.2.2.2.2.2.2.2.2.2.2.2.2.2.2.2.2.2.2.2.2.2.2.2.2.2.2.2.2.2.2.2.2.2.2.2.2.2.2.2.2.2.1))]
def q_cluster_Cluster (h:(List Value)×(List (Option Nat))×(List Nat)×(List Value)×(List Value)×(List Value)×(List Value)×(List Value)×Nat×(Option Nat)×(Array MapEntry)×Nat×(Option Nat)×(Array MapEntry)×Nat×Nat×(Option Nat)×(Array MapEntry)×Nat×(Option Nat)×(Array MapEntry)×Nat×Nat×(Option Nat)×(Array MapEntry)×Nat×(Option Nat)×(Array MapEntry)×Nat×Nat×(Option Nat)×(Array MapEntry)×Nat×(Option Nat)×(Array MapEntry)×Nat×Nat×(Option Nat)×(Array MapEntry)×Nat×(Option Nat)×(Array MapEntry)×Nat×Nat×(Option Nat)×(Array MapEntry)×Nat×(Option Nat)×(Array MapEntry)×Nat×(Option Addr)×Nat) (x:T_cluster_Cluster):List MP:=[MP.const (List.length h.2.1=4),Map.mp kStr true f_api_Ver.ty h.2.2.2.2.2.2.2.2.2.1 h.2.2.2.2.2.2.2.2.2.2.1 h.2.2.2.2.2.2.2.2.2.2.2.1 (((x.clients.getD 0 zm_cluster_client).Session).writes),Map.mp kStr true f_api_Ver.ty h.2.2.2.2.2.2.2.2.2.2.2.2.1 h.2.2.2.2.2.2.2.2.2.2.2.2.2.1 h.2.2.2.2.2.2.2.2.2.2.2.2.2.2.1 (((x.clients.getD 0 zm_cluster_client).Session).cache),Map.mp kStr true f_api_Ver.ty h.2.2.2.2.2.2.2.2.2.2.2.2.2.2.2.2.1 h.2.2.2.2.2.2.2.2.2.2.2.2.2.2.2.2.2.1 h.2.2.2.2.2.2.2.2.2.2.2.2.2.2.2.2.2.2.1 (((x.clients.getD 1 zm_cluster_client).Session).writes),Map.mp kStr true f_api_Ver.ty h.2.2.2.2.2.2.2.2.2.2.2.2.2.2.2.2.2.2.2.1 h.2.2.2.2.2.2.2.2.2.2.2.2.2.2.2.2.2.2.2.2.1 h.2.2.2.2.2.2.2.2.2.2.2.2.2.2.2.2.2.2.2.2.2.1 (((x.clients.getD 1 zm_cluster_client).Session).cache),Map.mp kStr true f_api_Ver.ty h.2.2.2.2.2.2.2.2.2.2.2.2.2.2.2.2.2.2.2.2.2.2.2.1 h.2.2.2.2.2.2.2.2.2.2.2.2.2.2.2.2.2.2.2.2.2.2.2.2.1 h.2.2.2.2.2.2.2.2.2.2.2.2.2.2.2.2.2.2.2.2.2.2.2.2.2.1 (((x.clients.getD 2 zm_cluster_client).Session).writes),Map.mp kStr true f_api_Ver.ty h.2.2.2.2.2.2.2.2.2.2.2.2.2.2.2.2.2.2.2.2.2.2.2.2.2.2.1 h.2.2.2.2.2.2.2.2.2.2.2.2.2.2.2.2.2.2.2.2.2.2.2.2.2.2.2.1 h.2.2.2.2.2.2.2.2.2.2.2.2.2.2.2.2.2.2.2.2.2.2.2.2.2.2.2.2.1 (((x.clients.getD 2 zm_cluster_client).Session).cache),Map.mp kStr true f_api_Ver.ty h.2.2.2.2.2.2.2.2.2.2.2.2.2.2.2.2.2.2.2.2.2.2.2.2.2.2.2.2.2.2.1 h.2.2.2.2.2.2.2.2.2.2.2.2.2.2.2.2.2.2.2.2.2.2.2.2.2.2.2.2.2.2.2.1 h.2.2.2.2.2.2.2.2.2.2.2.2.2.2.2.2.2.2.2.2.2.2.2.2.2.2.2.2.2.2.2.2.1 (((x.clients.getD 3 zm_cluster_client).Session).writes),Map.mp kStr true f_api_Ver.ty h.2.2.2.2.2.2.2.2.2.2.2.2.2.2.2.2.2.2.2.2.2.2.2.2.2.2.2.2.2.2.2.2.2.1 h.2.2.2.2.2.2.2.2.2.2.2.2.2.2.2.2.2.2.2.2.2.2.2.2.2.2.2.2.2.2.2.2.2.2.1 h.2.2.2.2.2.2.2.2.2.2.2.2.2.2.2.2.2.2.2.2.2.2.2.2.2.2.2.2.2.2.2.2.2.2.2.1 (((x.clients.getD 3 zm_cluster_client).Session).cache),Map.mp kStr true f_api_Ver.ty h.2.2.2.2.2.2.2.2.2.2.2.2.2.2.2.2.2.2.2.2.2.2.2.2.2.2.2.2.2.2.2.2.2.2.2.2.2.1 h.2.2.2.2.2.2.2.2.2.2.2.2.2.2.2.2.2.2.2.2.2.2.2.2.2.2.2.2.2.2.2.2.2.2.2.2.2.2.1 h.2.2.2.2.2.2.2.2.2.2.2.2.2.2.2.2.2.2.2.2.2.2.2.2.2.2.2.2.2.2.2.2.2.2.2.2.2.2.2.1 (((x.clients.getD 4 zm_cluster_client).Session).writes),Map.mp kStr true f_api_Ver.ty h.2.2.2.2.2.2.2.2.2.2.2.2.2.2.2.2.2.2.2.2.2.2.2.2.2.2.2.2.2.2.2.2.2.2.2.2.2.2.2.2.1 h.2.2.2.2.2.2.2.2.2.2.2.2.2.2.2.2.2.2.2.2.2.2.2.2.2.2.2.2.2.2.2.2.2.2.2.2.2.2.2.2.2.1 h.2.2.2.2.2.2.2.2.2.2.2.2.2.2.2.2.2.2.2.2.2.2.2.2.2.2.2.2.2.2.2.2.2.2.2.2.2.2.2.2.2.2.1 (((x.clients.getD 4 zm_cluster_client).Session).cache),Map.mp kStr true f_api_Ver.ty h.2.2.2.2.2.2.2.2.2.2.2.2.2.2.2.2.2.2.2.2.2.2.2.2.2.2.2.2.2.2.2.2.2.2.2.2.2.2.2.2.2.2.2.2.1 h.2.2.2.2.2.2.2.2.2.2.2.2.2.2.2.2.2.2.2.2.2.2.2.2.2.2.2.2.2.2.2.2.2.2.2.2.2.2.2.2.2.2.2.2.2.1 h.2.2.2.2.2.2.2.2.2.2.2.2.2.2.2.2.2.2.2.2.2.2.2.2.2.2.2.2.2.2.2.2.2.2.2.2.2.2.2.2.2.2.2.2.2.2.1 (((x.clients.getD 5 zm_cluster_client).Session).writes),Map.mp kStr true f_api_Ver.ty h.2.2.2.2.2.2.2.2.2.2.2.2.2.2.2.2.2.2.2.2.2.2.2.2.2.2.2.2.2.2.2.2.2.2.2.2.2.2.2.2.2.2.2.2.2.2.2.1 h.2.2.2.2.2.2.2.2.2.2.2.2.2.2.2.2.2.2.2.2.2.2.2.2.2.2.2.2.2.2.2.2.2.2.2.2.2.2.2.2.2.2.2.2.2.2.2.2.1 h.2.2.2.2.2.2.2.2.2.2.2.2.2.2.2.2.2.2.2.2.2.2.2.2.2.2.2.2.2.2.2.2.2.2.2.2.2.2.2.2.2.2.2.2.2.2.2.2.2.1 (((x.clients.getD 5 zm_cluster_client).Session).cache),Ro.mp t_hist_Tx h.2.2.2.2.2.2.2.2.2.2.2.2.2.2.2.2.2.2.2.2.2.2.2.2.2.2.2.2.2.2.2.2.2.2.2.2.2.2.2.2.2.2.2.2.2.2.2.2.2.2.1 h.2.2.2.2.2.2.2.2.2.2.2.2.2.2.2.2.2.2.2.2.2.2.2.2.2.2.2.2.2.2.2.2.2.2.2.2.2.2.2.2.2.2.2.2.2.2.2.2.2.2.2 x.txs]
def o_cluster_Cluster:OT T_cluster_Cluster:=OT.of c_cluster_Cluster q_cluster_Cluster
end Go.Cf
