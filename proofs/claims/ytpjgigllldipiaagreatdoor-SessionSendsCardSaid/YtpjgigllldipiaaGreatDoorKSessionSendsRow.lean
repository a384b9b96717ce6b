/- SessionSends: for every input the law returns true; each argument reads afterwards as before. No condition. -/
import Derived.Test.YtpjgigllldipiaaGreatDoorKA46
import Derived.Test.YtpjgigllldipiaaGreatDoorTie
import Derived.Test.YtpjgigllldipiaaGreatDoorCards
import Derived.Lay
set_option linter.all false
set_option maxRecDepth 100000
namespace Go.Proofs.YtpjgigllldipiaaGreatDoor.sessionSends
open Go.ChangeShapes Go.WideShapes Go.ChangeAt Go.RowKit Go.Proofs.YtpjgigllldipiaaGreatDoor
open Go.ChangeMaps (open_string shut_string)
def Yv:=@trodAll_cons_mk
theorem own :ownKnob Tryz.prog.godebug=none:=by kernel_rfl
theorem laid :laidOutB Tryz.prog=true:=by kernel_rfl
theorem lifted (os:Os)(started:os.Started)(H:Type)(enc:TypeId×Value->H):
 ReturnsInHanded {} Tryz.checked os 3 .any (fun w args=>(Rows.sessionSendsSpec.pre enc Tryz.prog Tryz.f3 [] false w args/\laidMetH Tryz.prog Rows.sessionSendsRow.laid w)/\sizedMet enc Tryz.prog Tryz.f3 (OpenSpec.ofChange Rows.sessionSendsSpec) false w args) (Rows.sessionSendsSpec.post enc Tryz.prog Tryz.f3 false true false false):=by
 refine returnsInHanded_of_change_and (C:=Tryz.checked) (X:=fun w _=>laidMetH Tryz.prog Rows.sessionSendsRow.laid w) (fun _ _ _ G h=>h.of_heap G) own started (by kernel_rfl) Tryz.func3
  (ChangeSpec.witness_shaped (enc:=enc) (C:=Tryz.checked) (os:=os) (X:=fun w _=>laidMetH Tryz.prog Rows.sessionSendsRow.laid w) false (World.laidAll Tryz.prog os Rows.sessionSendsRow.laid) #[.agg #[.int .i64 0,.int .u32 0,.int .i64 0,.int .i64 0,.int .i64 0,.int .i64 0],.slice none 0 0,.agg #[.string ByteArray.empty,.string ByteArray.empty,.bool false,.slice none 0 0],.slice none 0 0] 8 (World.laidAll_os _ _ _)
   (World.shaped_of_ZipB (by kernel_rfl) (by kernel_rfl)) (by kernel_rfl) (by kernel_rfl) (by kernel_rfl)
   (by rw[MakeChecks.laidMetH_plain _ _ _ (by kernel_rfl)];exact laidMet_laidAll _ (by kernel_rfl) (by kernel_rfl))) ?_
 intro W base args M gs al r u _ _ R _;have d:∀(j:Nat) t v,Tryz.f3.params[j]?=some t->args[j]?=some v->Value.okWide Tryz.prog W .any base t v:=r;have y:=u;obtain⟨p,q,z,E,rfl,ai,tU⟩:=u;have s:DataW.TrodAll enc Tryz.prog W 0 (fun _=>true) true Tryz.f3.params.toList args.toList M p:=z;rw[Tryz.params3]at s d;obtain⟨v0,ar,d0,ao,S,q0,ah,rfl,rfl,n,U⟩:=trodAll_cons s;obtain⟨A,ag,d1,ak,F,q1,rfl,rfl,rfl,k,r1⟩:=trodAll_cons U;obtain⟨v2,an,d2,aq,Y,q2,rfl,rfl,rfl,m,r2⟩:=trodAll_cons r1;obtain⟨v3,af,d3,aj,p3,q3,rfl,rfl,rfl,l,r3⟩:=trodAll_cons r2;obtain⟨rfl,rfl,rfl⟩:=trodAll_nil r3;obtain rfl:args= #[v0,A,v2,v3]:=by cases args;simp_all
 obtain⟨rfl,rfl⟩:=trodVars_none E;have J:∀x∈S,x.block<W.heap.size:=fun x hx=>by obtain⟨c,b⟩:=n;exact DataW.trod_lt c _ _ _ b x hx
 obtain⟨c0,rfl,K⟩:=Mr (d 0 24 v0 rfl rfl) n;have Gj:∀x∈F,x.block<W.heap.size:=fun x hx=>by obtain⟨c,b⟩:=k;exact DataW.trod_lt c _ _ _ b x hx
 obtain⟨N,O,i,Z⟩:=Ji (d 1 25 A rfl rfl) k;replace i:=i.symm;subst i;have Gc:∀x∈Y,x.block<W.heap.size:=fun x hx=>by obtain⟨c,b⟩:=m;exact DataW.trod_lt c _ _ _ b x hx
 obtain⟨n2,I,ad,D,ab,rfl,L⟩:=Ns (d 2 30 v2 rfl rfl) m;have ae:∀x∈p3,x.block<W.heap.size:=fun x hx=>by obtain⟨c,b⟩:=l;exact DataW.trod_lt c _ _ _ b x hx
 obtain⟨B,u3,o,aa⟩:=Nt (d 3 31 v3 rfl rfl) l;replace o:=o.symm;subst o;clear z r;simp only[xx]at y;refine(wj c0 N O n2 I ad D ab B u3 W K Z L aa (TB R)).mono fun e W' ⟨he,bel⟩=> ?_
 subst he;exact⟨_,rfl,_,_,_,[],_,[],y,trodAll_mk1 (shut_bool Tryz.underlying4 _),(Yv (Below.trod laid (by kernel_rfl) (yn (by kernel_rfl)) n bel J) (Yv (Below.trod laid (by kernel_rfl) (yn (by kernel_rfl)) k bel Gj) (Yv (Below.trod laid (by kernel_rfl) (yn (by kernel_rfl)) m bel Gc) (Yv (Below.trod laid (by kernel_rfl) (yn (by kernel_rfl)) l bel ae) trodAll_mk0)))),rfl,bel.frame _,fun h=>by cases h⟩
theorem over :Rows.sessionSendsRow.holds Tryz.pinned (OpenSpec.ofChange Rows.sessionSendsSpec):=
 OpenClaim.holds_of_wide 3 Tryz.f3 rfl rfl rfl rfl rfl rfl rfl ⟨rfl,rfl,rfl,rfl,rfl⟩ rfl rfl rfl rfl rfl (by kernel_rfl) Tryz.func3 (by kernel_rfl)
  (yn (by kernel_rfl)) (by unfold Func.isWrapper;first|(rw[zl (by decide+kernel)];kernel_rfl)|(rw[zj (by decide+kernel)];exact⟨rfl,rfl⟩))
  (fun os started H enc _=>lifted os started H enc)
theorem proved :Rows.SessionSendsCardSaid:=
 Claim7.holds_tied_plain_at .later [] [.data,.data,.data,.pinned] true (true, "0b334a147d73f5fd8237cb20e93dcc73ec0cd87e900ca6a3e21e8bde8d0d0b12") false over (fun _ h=>by cases h) (by kernel_rfl) (fun _ h=>by cases h) sessionSends_row_tie rfl ⟨rfl,rfl⟩ (by kernel_rfl) rfl
  (fun f fn e c=>by
   obtain rfl:f=3:=yt ((show Tryz.prog.funcNamed Rows.sessionSendsRow.func=some 3 by kernel_rfl).symm.trans e)|>.symm;obtain rfl:fn=Tryz.f3:=(yt (Tryz.func3.symm.trans c)).symm;exact⟨by kernel_rfl,fun j t b=>by
    rw[Tryz.params3]at b;have d:t∈ [24,25,30,31]:=by simpa using Array.mem_of_getElem? b
    have i:([24,25,30,31].all fun u=> !Tryz.prog.wantsStandIn u)=true:=by kernel_rfl
    exact(show Tryz.prog.wantsStandIn t=false by simpa using ZK.1 i t d)⟩)
  (by kernel_rfl)
#print axioms proved
