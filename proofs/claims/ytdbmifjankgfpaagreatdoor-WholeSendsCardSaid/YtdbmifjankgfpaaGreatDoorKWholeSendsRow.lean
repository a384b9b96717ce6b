/- WholeSends: for every input the law returns true; each argument reads afterwards as before. No condition. -/
import Derived.Test.YtdbmifjankgfpaaGreatDoorKA41
import Derived.Test.YtdbmifjankgfpaaGreatDoorTie
import Derived.Test.YtdbmifjankgfpaaGreatDoorCards
import Derived.Lay
set_option linter.all false
set_option maxRecDepth 100000
open Go.Proofs.Tryz
namespace Go.Proofs.YtdbmifjankgfpaaGreatDoor.wholeSends
open Go.ChangeShapes Go.WideShapes Go.ChangeAt Go.RowKit Go.Proofs.YtdbmifjankgfpaaGreatDoor
open Go.ChangeMaps (open_string shut_string)
def Yj:=@trodAll_cons_mk
theorem own :ownKnob prog.godebug=none:=by kernel_rfl
theorem laid :laidOutB prog=true:=by kernel_rfl
theorem lifted (os:Os)(started:os.Started)(H:Type)(enc:TypeId×Value->H):
 ReturnsInHanded {} checked os 3 .any (fun w args=>(Rows.wholeSendsSpec.pre enc prog f3 [] false w args/\laidMetH prog Rows.wholeSendsRow.laid w)/\sizedMet enc prog f3 (OpenSpec.ofChange Rows.wholeSendsSpec) false w args) (Rows.wholeSendsSpec.post enc prog f3 false true false false):=by
 refine returnsInHanded_of_change_and (C:=checked) (X:=fun w _=>laidMetH prog Rows.wholeSendsRow.laid w) (fun _ _ _ hh h=>h.of_heap hh) own started (by kernel_rfl) func3
  (ChangeSpec.witness_shaped (enc:=enc) (C:=checked) (os:=os) (X:=fun w _=>laidMetH prog Rows.wholeSendsRow.laid w) false (World.laidAll prog os Rows.wholeSendsRow.laid) #[.agg #[.int .i64 0,.int .u32 0,.int .i64 0,.int .i64 0,.int .i64 0,.int .i64 0],.slice none 0 0,.agg #[.string ByteArray.empty,.string ByteArray.empty,.bool false,.slice none 0 0],.slice none 0 0] 8 (World.laidAll_os _ _ _)
   (World.shaped_of_ZipB (by kernel_rfl) (by kernel_rfl)) (by kernel_rfl) (by kernel_rfl) (by kernel_rfl)
   (by rw[MakeChecks.laidMetH_plain _ _ _ (by kernel_rfl)];exact laidMet_laidAll _ (by kernel_rfl) (by kernel_rfl))) ?_
 intro W base args ds gs ar y z _ _ F _;have d:∀(j:Nat) t v,f3.params[j]?=some t->args[j]?=some v->Value.okWide prog W .any base t v:=y;have A:=z;obtain⟨p,q,s,N,rfl,ai,uB⟩:=z;have r:DataW.TrodAll enc prog W 0 (fun _=>true) true f3.params.toList args.toList ds p:=s;rw[params3]at r d;obtain⟨v0,au,d0,ah,G,q0,aq,rfl,rfl,l,I⟩:=trodAll_cons r;obtain⟨u,an,d1,aj,B,q1,rfl,rfl,rfl,o,r1⟩:=trodAll_cons I;obtain⟨v2,ak,d2,al,M,q2,rfl,rfl,rfl,k,D⟩:=trodAll_cons r1;obtain⟨v3,av,d3,ao,p3,q3,rfl,rfl,rfl,m,U⟩:=trodAll_cons D;obtain⟨rfl,rfl,rfl⟩:=trodAll_nil U;obtain rfl:args= #[v0,u,v2,v3]:=by cases args;simp_all
 obtain⟨rfl,rfl⟩:=trodVars_none N;have Y:∀x∈G,x.block<W.heap.size:=fun x hx=>by obtain⟨c,b⟩:=l;exact DataW.trod_lt c _ _ _ b x hx
 obtain⟨c0,rfl,ad⟩:=Ni (d 0 24 v0 rfl rfl) l;have Bh:∀x∈B,x.block<W.heap.size:=fun x hx=>by obtain⟨c,b⟩:=o;exact DataW.trod_lt c _ _ _ b x hx
 obtain⟨R,S,i,ab⟩:=JM (d 1 25 u rfl rfl) o;replace i:=i.symm;subst i;have K:∀x∈M,x.block<W.heap.size:=fun x hx=>by obtain⟨c,b⟩:=k;exact DataW.trod_lt c _ _ _ b x hx
 obtain⟨n2,J,aa,O,E,rfl,af⟩:=N' (d 2 30 v2 rfl rfl) k;have ae:∀x∈p3,x.block<W.heap.size:=fun x hx=>by obtain⟨c,b⟩:=m;exact DataW.trod_lt c _ _ _ b x hx
 obtain⟨Z,L,n,ag⟩:=Oa (d 3 31 v3 rfl rfl) m;replace n:=n.symm;subst n;clear s y;simp only[yV]at A;refine(DC c0 R S n2 J aa O E Z L W ad ab af ag (UG F)).mono fun e W' ⟨he,bel⟩=> ?_
 subst he;exact⟨_,rfl,_,_,_,[],_,[],A,trodAll_mk1 (shut_bool underlying4 _),(Yj (Below.trod laid (by kernel_rfl) (yf (by kernel_rfl)) l bel Y) (Yj (Below.trod laid (by kernel_rfl) (yf (by kernel_rfl)) o bel Bh) (Yj (Below.trod laid (by kernel_rfl) (yf (by kernel_rfl)) k bel K) (Yj (Below.trod laid (by kernel_rfl) (yf (by kernel_rfl)) m bel ae) trodAll_mk0)))),rfl,bel.frame _,fun h=>by cases h⟩
theorem over :Rows.wholeSendsRow.holds Tryz.pinned (OpenSpec.ofChange Rows.wholeSendsSpec):=
 OpenClaim.holds_of_wide 3 f3 rfl rfl rfl rfl rfl rfl rfl ⟨rfl,rfl,rfl,rfl,rfl⟩ rfl rfl rfl rfl rfl (by kernel_rfl) func3 (by kernel_rfl)
  (yf (by kernel_rfl)) (by unfold Func.isWrapper;first|(rw[zi (by decide+kernel)];kernel_rfl)|(rw[zh (by decide+kernel)];exact⟨rfl,rfl⟩))
  (fun os started H enc _=>lifted os started H enc)
theorem proved :Rows.WholeSendsCardSaid:=
 Claim7.holds_tied_plain_at .later [] [.data,.data,.data,.pinned] true (true, "51f278aba1a934dcf767831a51ab009816846d7dcd76e1fc6d8c547428f6282c") false over (fun _ h=>by cases h) (by kernel_rfl) (fun _ h=>by cases h) wholeSends_row_tie rfl ⟨rfl,rfl⟩ (by kernel_rfl) rfl
  (fun f fn i c=>by
   obtain rfl:f=3:=yg ((show prog.funcNamed Rows.wholeSendsRow.func=some 3 by kernel_rfl).symm.trans i)|>.symm;obtain rfl:fn=f3:=(yg (func3.symm.trans c)).symm;exact⟨by kernel_rfl,fun j t b=>by
    rw[params3]at b;have e:t∈ [24,25,30,31]:=by simpa using Array.mem_of_getElem? b
    have d:([24,25,30,31].all fun u=> !prog.wantsStandIn u)=true:=by kernel_rfl
    exact(show prog.wantsStandIn t=false by simpa using Zx.1 d t e)⟩)
  (by kernel_rfl)
#print axioms proved
