/- PeerTalks: for every input the law returns true; each argument reads afterwards as before. No condition. -/
import Derived.Test.YtimoclkoflamkaaGreatDoorKA42
import Derived.Test.YtimoclkoflamkaaGreatDoorTie
import Derived.Test.YtimoclkoflamkaaGreatDoorCards
import Derived.Lay
set_option linter.all false
set_option maxRecDepth 100000
open Go.Proofs.Tryz
namespace Go.Proofs.YtimoclkoflamkaaGreatDoor.peerTalks
open Go.ChangeShapes Go.WideShapes Go.ChangeAt Go.RowKit Go.Proofs.YtimoclkoflamkaaGreatDoor
open Go.ChangeMaps (open_string shut_string)
def ZR:=@trodAll_cons_mk
def Yk:=@DataW.trod_lt
def YA:=@trodAll_cons
theorem own :ownKnob prog.godebug=none:=by kernel_rfl
theorem laid :laidOutB prog=true:=by kernel_rfl
theorem lifted (os:Os)(started:os.Started)(H:Type)(enc:TypeId×Value->H):
 ReturnsInHanded {} checked os 4 .any (fun w args=>(Rows.peerTalksSpec.pre enc prog f4 [] false w args/\laidMetH prog Rows.peerTalksRow.laid w)/\sizedMet enc prog f4 (OpenSpec.ofChange Rows.peerTalksSpec) false w args) (Rows.peerTalksSpec.post enc prog f4 false true false false):=by
 refine returnsInHanded_of_change_and (C:=checked) (X:=fun w _=>laidMetH prog Rows.peerTalksRow.laid w) (fun _ _ _ S h=>h.of_heap S) own started (by kernel_rfl) func4
  (ChangeSpec.witness_shaped (enc:=enc) (C:=checked) (os:=os) (X:=fun w _=>laidMetH prog Rows.peerTalksRow.laid w) false (World.laidAll prog os Rows.peerTalksRow.laid) #[.agg #[.int .i64 0,.int .u32 0,.int .i64 0,.int .i64 0,.int .i64 0,.int .i64 0],.slice none 0 0,.slice none 0 0] 8 (World.laidAll_os _ _ _)
   (World.shaped_of_ZipB (by kernel_rfl) (by kernel_rfl)) (by kernel_rfl) (by kernel_rfl) (by kernel_rfl)
   (by rw[Yb _ _ _ (by kernel_rfl)];exact laidMet_laidAll _ (by kernel_rfl) (by kernel_rfl))) ?_
 intro W base args ds gs ab u z _ _ hL _;have d:∀(j:Nat) t v,f4.params[j]?=some t->args[j]?=some v->Value.okWide prog W .any base t v:=u;have s:=z;obtain⟨p,q,r,B,rfl,ai,uX⟩:=z;have o:DataW.TrodAll enc prog W 0 (fun _=>true) true f4.params.toList args.toList ds p:=r;rw[params4]at o d;obtain⟨v0,ah,d0,ak,L,q0,af,rfl,rfl,k,U⟩:=YA o;obtain⟨y,ag,d1,ad,I,q1,rfl,rfl,rfl,i,r1⟩:=YA U;obtain⟨v2,aj,d2,ae,F,q2,rfl,rfl,rfl,m,D⟩:=YA r1;obtain⟨rfl,rfl,rfl⟩:=trodAll_nil D;obtain rfl:args= #[v0,y,v2]:=by cases args;simp_all
 obtain⟨rfl,rfl⟩:=trodVars_none B;have Z:∀x∈L,x.block<W.heap.size:=fun x hx=>by obtain⟨b,c⟩:=k;exact Yk b _ _ _ c x hx
 obtain⟨A,rfl,M⟩:=C3 (d 0 24 v0 rfl rfl) k;have E:∀x∈I,x.block<W.heap.size:=fun x hx=>by obtain⟨b,c⟩:=i;exact Yk b _ _ _ c x hx
 obtain⟨Y,G,l,J⟩:=AK (d 1 25 y rfl rfl) i;replace l:=l.symm;subst l;have N:∀x∈F,x.block<W.heap.size:=fun x hx=>by obtain⟨b,c⟩:=m;exact Yk b _ _ _ c x hx
 obtain⟨O,K,n,aa⟩:=KQ (d 2 46 v2 rfl rfl) m;replace n:=n.symm;subst n;clear r u;simp only[yO]at s;refine(Im A Y G O K W M J aa (MF hL)).mono fun e W' ⟨R,bel⟩=> ?_
 subst R;exact⟨_,rfl,_,_,_,[],_,[],s,trodAll_mk1 (shut_bool underlying4 _),(ZR (Below.trod laid (by kernel_rfl) (zX (by kernel_rfl)) k bel Z) (ZR (Below.trod laid (by kernel_rfl) (zX (by kernel_rfl)) i bel E) (ZR (Below.trod laid (by kernel_rfl) (zX (by kernel_rfl)) m bel N) trodAll_mk0))),rfl,bel.frame _,fun h=>by cases h⟩
theorem over :Rows.peerTalksRow.holds Tryz.pinned (OpenSpec.ofChange Rows.peerTalksSpec):=
 OpenClaim.holds_of_wide 4 f4 rfl rfl rfl rfl rfl rfl rfl ⟨rfl,rfl,rfl,rfl,rfl⟩ rfl rfl rfl rfl rfl (by kernel_rfl) func4 (by kernel_rfl)
  (zX (by kernel_rfl)) (by unfold Func.isWrapper;first|(rw[zg (by decide+kernel)];kernel_rfl)|(rw[zf (by decide+kernel)];exact⟨rfl,rfl⟩))
  (fun os started H enc _=>lifted os started H enc)
theorem proved :Rows.PeerTalksCardSaid:=
 Claim7.holds_tied_plain_at .later [] [.data,.data,.data,.pinned] true (true, "90238ebd4251930a19804b872375551290112267c1049f2238ee14dcabdff21b") false over (fun _ h=>by cases h) (by kernel_rfl) (fun _ h=>by cases h) peerTalks_row_tie rfl ⟨rfl,rfl⟩ (by kernel_rfl) rfl
  (fun f fn i c=>by
   obtain rfl:f=4:=xR ((show prog.funcNamed Rows.peerTalksRow.func=some 4 by kernel_rfl).symm.trans i)|>.symm;obtain rfl:fn=f4:=(xR (func4.symm.trans c)).symm;exact⟨by kernel_rfl,fun j t b=>by
    rw[params4]at b;have e:t∈ [24,25,46]:=by simpa using YI b
    have d:([24,25,46].all fun u=> !prog.wantsStandIn u)=true:=by kernel_rfl
    exact(show prog.wantsStandIn t=false by simpa using Zh.1 d t e)⟩)
  (by kernel_rfl)
#print axioms proved
