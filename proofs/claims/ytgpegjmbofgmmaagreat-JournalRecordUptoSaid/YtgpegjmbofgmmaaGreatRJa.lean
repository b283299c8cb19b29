/- A part of the proof. No condition. -/
import Derived.Test.YtgpegjmbofgmmaaGreatProg
import Derived.Test.YtgpegjmbofgmmaaGreatREngFour
import Derived.Tactics
import Derived.Tactics2
import Derived.Lib.Strings
import Derived.Lib.Slices
import Derived.Lib.Walk
import Derived.Lib.Bytes
import Derived.KernelRfl
namespace Go.Proofs.YtgpegjmbofgmmaaGreat.jouRun
open Go.Ab
def crc:List Value := [
 .int .u32 (.ofNat 0),.int .u32 (.ofNat 1996959894),.int .u32 (.ofNat 3993919788),.int .u32 (.ofNat 2567524794),.int .u32 (.ofNat 124634137),
 .int .u32 (.ofNat 1886057615),.int .u32 (.ofNat 3915621685),.int .u32 (.ofNat 2657392035),.int .u32 (.ofNat 249268274),.int .u32 (.ofNat 2044508324),
 .int .u32 (.ofNat 3772115230),.int .u32 (.ofNat 2547177864),.int .u32 (.ofNat 162941995),.int .u32 (.ofNat 2125561021),.int .u32 (.ofNat 3887607047),
 .int .u32 (.ofNat 2428444049),.int .u32 (.ofNat 498536548),.int .u32 (.ofNat 1789927666),.int .u32 (.ofNat 4089016648),.int .u32 (.ofNat 2227061214),
 .int .u32 (.ofNat 450548861),.int .u32 (.ofNat 1843258603),.int .u32 (.ofNat 4107580753),.int .u32 (.ofNat 2211677639),.int .u32 (.ofNat 325883990),
 .int .u32 (.ofNat 1684777152),.int .u32 (.ofNat 4251122042),.int .u32 (.ofNat 2321926636),.int .u32 (.ofNat 335633487),.int .u32 (.ofNat 1661365465),
 .int .u32 (.ofNat 4195302755),.int .u32 (.ofNat 2366115317),.int .u32 (.ofNat 997073096),.int .u32 (.ofNat 1281953886),.int .u32 (.ofNat 3579855332),
 .int .u32 (.ofNat 2724688242),.int .u32 (.ofNat 1006888145),.int .u32 (.ofNat 1258607687),.int .u32 (.ofNat 3524101629),.int .u32 (.ofNat 2768942443),
 .int .u32 (.ofNat 901097722),.int .u32 (.ofNat 1119000684),.int .u32 (.ofNat 3686517206),.int .u32 (.ofNat 2898065728),.int .u32 (.ofNat 853044451),
 .int .u32 (.ofNat 1172266101),.int .u32 (.ofNat 3705015759),.int .u32 (.ofNat 2882616665),.int .u32 (.ofNat 651767980),.int .u32 (.ofNat 1373503546),
 .int .u32 (.ofNat 3369554304),.int .u32 (.ofNat 3218104598),.int .u32 (.ofNat 565507253),.int .u32 (.ofNat 1454621731),.int .u32 (.ofNat 3485111705),
 .int .u32 (.ofNat 3099436303),.int .u32 (.ofNat 671266974),.int .u32 (.ofNat 1594198024),.int .u32 (.ofNat 3322730930),.int .u32 (.ofNat 2970347812),
 .int .u32 (.ofNat 795835527),.int .u32 (.ofNat 1483230225),.int .u32 (.ofNat 3244367275),.int .u32 (.ofNat 3060149565),.int .u32 (.ofNat 1994146192),
 .int .u32 (.ofNat 31158534),.int .u32 (.ofNat 2563907772),.int .u32 (.ofNat 4023717930),.int .u32 (.ofNat 1907459465),.int .u32 (.ofNat 112637215),
 .int .u32 (.ofNat 2680153253),.int .u32 (.ofNat 3904427059),.int .u32 (.ofNat 2013776290),.int .u32 (.ofNat 251722036),.int .u32 (.ofNat 2517215374),
 .int .u32 (.ofNat 3775830040),.int .u32 (.ofNat 2137656763),.int .u32 (.ofNat 141376813),.int .u32 (.ofNat 2439277719),.int .u32 (.ofNat 3865271297),
 .int .u32 (.ofNat 1802195444),.int .u32 (.ofNat 476864866),.int .u32 (.ofNat 2238001368),.int .u32 (.ofNat 4066508878),.int .u32 (.ofNat 1812370925),
 .int .u32 (.ofNat 453092731),.int .u32 (.ofNat 2181625025),.int .u32 (.ofNat 4111451223),.int .u32 (.ofNat 1706088902),.int .u32 (.ofNat 314042704),
 .int .u32 (.ofNat 2344532202),.int .u32 (.ofNat 4240017532),.int .u32 (.ofNat 1658658271),.int .u32 (.ofNat 366619977),.int .u32 (.ofNat 2362670323),
 .int .u32 (.ofNat 4224994405),.int .u32 (.ofNat 1303535960),.int .u32 (.ofNat 984961486),.int .u32 (.ofNat 2747007092),.int .u32 (.ofNat 3569037538),
 .int .u32 (.ofNat 1256170817),.int .u32 (.ofNat 1037604311),.int .u32 (.ofNat 2765210733),.int .u32 (.ofNat 3554079995),.int .u32 (.ofNat 1131014506),
 .int .u32 (.ofNat 879679996),.int .u32 (.ofNat 2909243462),.int .u32 (.ofNat 3663771856),.int .u32 (.ofNat 1141124467),.int .u32 (.ofNat 855842277),
 .int .u32 (.ofNat 2852801631),.int .u32 (.ofNat 3708648649),.int .u32 (.ofNat 1342533948),.int .u32 (.ofNat 654459306),.int .u32 (.ofNat 3188396048),
 .int .u32 (.ofNat 3373015174),.int .u32 (.ofNat 1466479909),.int .u32 (.ofNat 544179635),.int .u32 (.ofNat 3110523913),.int .u32 (.ofNat 3462522015),
 .int .u32 (.ofNat 1591671054),.int .u32 (.ofNat 702138776),.int .u32 (.ofNat 2966460450),.int .u32 (.ofNat 3352799412),.int .u32 (.ofNat 1504918807),
 .int .u32 (.ofNat 783551873),.int .u32 (.ofNat 3082640443),.int .u32 (.ofNat 3233442989),.int .u32 (.ofNat 3988292384),.int .u32 (.ofNat 2596254646),
 .int .u32 (.ofNat 62317068),.int .u32 (.ofNat 1957810842),.int .u32 (.ofNat 3939845945),.int .u32 (.ofNat 2647816111),.int .u32 (.ofNat 81470997),
 .int .u32 (.ofNat 1943803523),.int .u32 (.ofNat 3814918930),.int .u32 (.ofNat 2489596804),.int .u32 (.ofNat 225274430),.int .u32 (.ofNat 2053790376),
 .int .u32 (.ofNat 3826175755),.int .u32 (.ofNat 2466906013),.int .u32 (.ofNat 167816743),.int .u32 (.ofNat 2097651377),.int .u32 (.ofNat 4027552580),
 .int .u32 (.ofNat 2265490386),.int .u32 (.ofNat 503444072),.int .u32 (.ofNat 1762050814),.int .u32 (.ofNat 4150417245),.int .u32 (.ofNat 2154129355),
 .int .u32 (.ofNat 426522225),.int .u32 (.ofNat 1852507879),.int .u32 (.ofNat 4275313526),.int .u32 (.ofNat 2312317920),.int .u32 (.ofNat 282753626),
 .int .u32 (.ofNat 1742555852),.int .u32 (.ofNat 4189708143),.int .u32 (.ofNat 2394877945),.int .u32 (.ofNat 397917763),.int .u32 (.ofNat 1622183637),
 .int .u32 (.ofNat 3604390888),.int .u32 (.ofNat 2714866558),.int .u32 (.ofNat 953729732),.int .u32 (.ofNat 1340076626),.int .u32 (.ofNat 3518719985),
 .int .u32 (.ofNat 2797360999),.int .u32 (.ofNat 1068828381),.int .u32 (.ofNat 1219638859),.int .u32 (.ofNat 3624741850),.int .u32 (.ofNat 2936675148),
 .int .u32 (.ofNat 906185462),.int .u32 (.ofNat 1090812512),.int .u32 (.ofNat 3747672003),.int .u32 (.ofNat 2825379669),.int .u32 (.ofNat 829329135),
 .int .u32 (.ofNat 1181335161),.int .u32 (.ofNat 3412177804),.int .u32 (.ofNat 3160834842),.int .u32 (.ofNat 628085408),.int .u32 (.ofNat 1382605366),
 .int .u32 (.ofNat 3423369109),.int .u32 (.ofNat 3138078467),.int .u32 (.ofNat 570562233),.int .u32 (.ofNat 1426400815),.int .u32 (.ofNat 3317316542),
 .int .u32 (.ofNat 2998733608),.int .u32 (.ofNat 733239954),.int .u32 (.ofNat 1555261956),.int .u32 (.ofNat 3268935591),.int .u32 (.ofNat 3050360625),
 .int .u32 (.ofNat 752459403),.int .u32 (.ofNat 1541320221),.int .u32 (.ofNat 2607071920),.int .u32 (.ofNat 3965973030),.int .u32 (.ofNat 1969922972),
 .int .u32 (.ofNat 40735498),.int .u32 (.ofNat 2617837225),.int .u32 (.ofNat 3943577151),.int .u32 (.ofNat 1913087877),.int .u32 (.ofNat 83908371),
 .int .u32 (.ofNat 2512341634),.int .u32 (.ofNat 3803740692),.int .u32 (.ofNat 2075208622),.int .u32 (.ofNat 213261112),.int .u32 (.ofNat 2463272603),
 .int .u32 (.ofNat 3855990285),.int .u32 (.ofNat 2094854071),.int .u32 (.ofNat 198958881),.int .u32 (.ofNat 2262029012),.int .u32 (.ofNat 4057260610),
 .int .u32 (.ofNat 1759359992),.int .u32 (.ofNat 534414190),.int .u32 (.ofNat 2176718541),.int .u32 (.ofNat 4139329115),.int .u32 (.ofNat 1873836001),
 .int .u32 (.ofNat 414664567),.int .u32 (.ofNat 2282248934),.int .u32 (.ofNat 4279200368),.int .u32 (.ofNat 1711684554),.int .u32 (.ofNat 285281116),
 .int .u32 (.ofNat 2405801727),.int .u32 (.ofNat 4167216745),.int .u32 (.ofNat 1634467795),.int .u32 (.ofNat 376229701),.int .u32 (.ofNat 2685067896),
 .int .u32 (.ofNat 3608007406),.int .u32 (.ofNat 1308918612),.int .u32 (.ofNat 956543938),.int .u32 (.ofNat 2808555105),.int .u32 (.ofNat 3495958263),
 .int .u32 (.ofNat 1231636301),.int .u32 (.ofNat 1047427035),.int .u32 (.ofNat 2932959818),.int .u32 (.ofNat 3654703836),.int .u32 (.ofNat 1088359270),
 .int .u32 (.ofNat 936918000),.int .u32 (.ofNat 2847714899),.int .u32 (.ofNat 3736837829),.int .u32 (.ofNat 1202900863),.int .u32 (.ofNat 817233897),
 .int .u32 (.ofNat 3183342108),.int .u32 (.ofNat 3401237130),.int .u32 (.ofNat 1404277552),.int .u32 (.ofNat 615818150),.int .u32 (.ofNat 3134207493),
 .int .u32 (.ofNat 3453421203),.int .u32 (.ofNat 1423857449),.int .u32 (.ofNat 601450431),.int .u32 (.ofNat 3009837614),.int .u32 (.ofNat 3294710456),
 .int .u32 (.ofNat 1567103746),.int .u32 (.ofNat 711928724),.int .u32 (.ofNat 3020668471),.int .u32 (.ofNat 3272380065),.int .u32 (.ofNat 1510334235),
 .int .u32 (.ofNat 755167117)]
theorem enter79 (args:Array Value) (w:World):(callFunc 79 args).run Tryz.prog w = .ok (.enter 79 args) w:=by
 simp only[callFunc,Sem.run_bind,run_program,Result.andThen_ok,Tryz.func79];rfl
theorem idle79:IdleD Tryz.prog 79 2:=by
 refine⟨enter79,fun args w hl=>?_⟩
 match args,hl with
 | [p,q],_ =>
  refine(?_:CallsD Tryz.prog 79 #[p,q] .returning w fun e u' w'=>e = .returned (.tuple #[])/\u' = .returning/\w'=w).mono (by rintro e u' w' ⟨rfl,rfl,rfl⟩;exact⟨⟨_,rfl⟩,rfl,rfl⟩)
  refine callsD_of_wpS Tryz.func79 rfl fun c₀ cs hu=>?_
  apply wpS_seq
  apply wpS_region
  simp[wpOpsS,go_sem,recoverD,hu,Tryz.ntmps79,Exit.thenS]
  apply wpS_seq
  apply wpS_region
  simp[wpOpsS,go_sem,recoverD,hu,Exit.thenS,Array.replicate]
  refine wpS_cond (t:=false) (by simp[Act.eval]) ?_
  simp only[Bool.false_eq_true,if_false]
  refine wpS_of_wp (wp_skip ?_)
  cases c₀
  simp_all [bodyPostS,results,Tryz.results79]
theorem enter145 (args:Array Value) (w:World):(callFunc 145 args).run Tryz.prog w = .ok (.enter 145 args) w:=by
 simp only[callFunc,Sem.run_bind,run_program,Result.andThen_ok,Tryz.func145];rfl
theorem idle145:IdleD Tryz.prog 145 2:=by
 refine⟨enter145,fun args w hl=>?_⟩
 match args,hl with
 | [p,q],_ =>
  refine(?_:CallsD Tryz.prog 145 #[p,q] .returning w fun e u' w'=>e = .returned (.tuple #[])/\u' = .returning/\w'=w).mono (by rintro e u' w' ⟨rfl,rfl,rfl⟩;exact⟨⟨_,rfl⟩,rfl,rfl⟩)
  refine callsD_of_wpS Tryz.func145 rfl fun c₀ cs hu=>?_
  apply wpS_seq
  apply wpS_region
  simp[wpOpsS,go_sem,recoverD,hu,Tryz.ntmps145,Exit.thenS]
  apply wpS_seq
  apply wpS_region
  simp[wpOpsS,go_sem,recoverD,hu,Exit.thenS,Array.replicate]
  refine wpS_cond (t:=false) (by simp[Act.eval]) ?_
  simp only[Bool.false_eq_true,if_false]
  refine wpS_of_wp (wp_skip ?_)
  cases c₀
  simp_all [bodyPostS,results,Tryz.results145]
theorem enter437 (args:Array Value) (w:World):(callFunc 437 args).run Tryz.prog w = .ok (.enter 437 args) w:=by
 simp only[callFunc,Sem.run_bind,run_program,Result.andThen_ok,Tryz.func437];rfl
theorem wp_loop_once {P:Program} {Q:Exit->Act->World->Prop} {a:Act} {w:World} {c:Code} (h:c.wp P (fun e a' w'=>e ≠ .normal/\Q e a' w') a w):(Code.loop c).wp P Q a w:=by
 refine wp_loop (fun a' w'=>a'=a/\w'=w) (fun _ _=>0) ⟨rfl,rfl⟩ ?_
 rintro _ _ ⟨rfl,rfl⟩
 refine wp_mono h ?_
 rintro e a' w' ⟨hne,hq⟩
 cases e<;>first|exact absurd rfl hne|exact hq
theorem run_next_empty {P:Program} {w:World} {r m cl:Nat} {ty:TypeId} (h1:w.heap[r]?=some (.mapIter (some m) cl #[] cl)) (h2:w.heap[m]?=some (.map #[] cl)) :
  (Instr.next (.pointer (some ⟨r,0,none⟩)) false ty).run P w = .ok (.tuple #[.bool false]) w:=by
 have g1:(getObj r).run P w = .ok (.mapIter (some m) cl #[] cl) w:=by simp only[getObj,Sem.run,h1]
 have g2:(getObj m).run P w = .ok (.map #[] cl) w:=by simp only[getObj,Sem.run,h2]
 have hf : ∀p:MapEntry->Bool,(#[]:Array MapEntry).filter p = #[]:=fun p=>by simp
 simp only[Instr.next,Sem.run_bind,g1,Result.andThen_ok,g2,hf]
 simp[choose,Sem.run,Question.forced]
set_option maxHeartbeats 1000000 in
theorem keys437:EmptyKeys Tryz.prog 437:=by
 refine⟨enter437,fun y b r cl w h1 h2=>?_⟩
 have hlt:r<w.heap.size:=(Array.getElem?_eq_some_iff.1 h2).1
 obtain⟨w1,hw1⟩ : ∃w1,w1=World.more w (.mapIter (some r) cl #[] cl):=⟨_,rfl⟩
 have k1:w1.heap[w.heap.size]?=some (.mapIter (some r) cl #[] cl):=by rw[hw1];exact more_self
 have k2:w1.heap[r]?=some (.map #[] cl):=by rw[hw1,more_lt hlt];exact h2
 have hd : ∀ty,(Instr.next (.pointer (some ⟨w.heap.size,0,none⟩)) false ty).run Tryz.prog w1 = .ok (.tuple #[.bool false]) w1:=fun ty=>run_next_empty k1 k2
 have hrange:(Instr.range 203 (.map (some r))).run Tryz.prog w = .ok (.pointer (some ⟨w.heap.size,0,none⟩)) w1:=by
  have g:(getObj r).run Tryz.prog w = .ok (.map #[] cl) w:=by simp only[getObj,Sem.run,h2]
  unfold Instr.range
  simp only[Sem.run_bind,run_underlying Tryz.underlying203,Result.andThen_ok,g,Sem.run_pure,run_newObj]
  rw[hw1];rfl
 go_enter Tryz.func437,Tryz.ntmps437
 apply wp_seq
 apply wp_region
 simp[wpOps,Oper.wp,go_sem,h1,hrange,Exit.then]
 refine .inl (.inl ?_)
 apply wp_block
 apply wp_loop_once
 apply wp_seq
 apply wp_region
 simp[wpOps,Oper.wp,go_sem,hd,Exit.then]
 refine .inl (.inl ?_)
 apply wp_seq
 refine wp_cond (t:=false) (by simp[Act.eval]) ?_
 simp only[Bool.false_eq_true,if_false]
 refine wp_exit ⟨by simp,?_⟩
 dsimp only
 rw[if_pos rfl]
 exact⟨rfl,_,by simp[results,Tryz.results437],rfl,.mapIter (some r) cl #[] cl,rfl,(World.more w (.mapIter (some r) cl #[] cl)).drawn,hw1⟩
theorem enter51 (args:Array Value) (w:World):(callFunc 51 args).run Tryz.prog w = .ok (.enter 51 args) w:=by
 simp only[callFunc,Sem.run_bind,run_program,Result.andThen_ok,Tryz.func51];rfl
set_option maxHeartbeats 1000000 in
theorem eq51:EqBytes Tryz.prog 51 35 5 9:=by
 refine⟨enter51,Tryz.underlying35,Tryz.underlying5,Tryz.underlying9,fun v1 v2 xs ys w h1 h2=>?_⟩
 rw[<- Lib.strOfNums_toList,<-Lib.strOfNums_toList]
 go_enter Tryz.func51,Tryz.ntmps51
 go_wp2
 go_ret
 exact⟨rfl,rfl⟩
end Go.Proofs.YtgpegjmbofgmmaaGreat.jouRun
namespace Go.Proofs.YtgpegjmbofgmmaaGreat.jouRun
open Go.Ab
theorem p485:PrimOK Tryz.prog 485 .f32from:=⟨Tryz.f485,Tryz.func485,by kernel_rfl,by kernel_rfl,by kernel_rfl,by kernel_rfl⟩
theorem p487:PrimOK Tryz.prog 487 .f32bits:=⟨Tryz.f487,Tryz.func487,by kernel_rfl,by kernel_rfl,by kernel_rfl,by kernel_rfl⟩
theorem p491:PrimOK Tryz.prog 491 .even:=⟨Tryz.f491,Tryz.func491,by kernel_rfl,by kernel_rfl,by kernel_rfl,by kernel_rfl⟩
theorem p543:PrimOK Tryz.prog 543 .f64bits:=⟨Tryz.f543,Tryz.func543,by kernel_rfl,by kernel_rfl,by kernel_rfl,by kernel_rfl⟩
theorem p544:PrimOK Tryz.prog 544 .f64from:=⟨Tryz.f544,Tryz.func544,by kernel_rfl,by kernel_rfl,by kernel_rfl,by kernel_rfl⟩
theorem mixed:Tryz.prog.follows .mixedOrders=true:=by kernel_rfl
def prims:List (Nat×Prim) := [(485,.f32from),(487,.f32bits),(491,.even),(543,.f64bits),(544,.f64from)]
theorem primsOK : ∀x,x∈prims->PrimOK Tryz.prog x.1 x.2:=by
 intro x hx
 simp only[prims,List.mem_cons,List.not_mem_nil,or_false] at hx
 rcases hx with rfl|rfl|rfl|rfl|rfl
 ·exact p485
 ·exact p487
 ·exact p491
 ·exact p543
 ·exact p544
noncomputable def base0:T FF:=mkF (mkTT Tryz.prog) Tryz.prog prims
theorem base0OK : ∀f ff,base0.get f=some ff->FFok Tryz.prog f ff:=mkF_ok (mkTT_ok Tryz.prog) mixed primsOK
theorem crc_ok:FFok Tryz.prog 115 (freshFF crc):=fresh_ok base0OK (n:=1000) (by kernel_rfl) (by kernel_rfl)
theorem idleOK : ∀x,x ∈ [(79,2),(145,2)]->IdleD Tryz.prog x.1 x.2:=by
 intro x hx
 simp only[List.mem_cons,List.not_mem_nil,or_false] at hx
 rcases hx with rfl|rfl
 ·exact idle79
 ·exact idle145
noncomputable def base1:T FF:=withDs (mkTT Tryz.prog) [(79,2),(145,2)] [(535,Tryz.f535),(137,Tryz.f137),(49,Tryz.f49),(95,Tryz.f95)] base0
theorem base1OK : ∀f ff,base1.get f=some ff->FFok Tryz.prog f ff:=by
 refine withDs_ok (mkTT_ok Tryz.prog) mixed idleOK _ _ ?_ base0OK
 intro x hx
 simp only[List.mem_cons,List.not_mem_nil,or_false] at hx
 rcases hx with rfl|rfl|rfl|rfl
 ·exact Tryz.func535
 ·exact Tryz.func137
 ·exact Tryz.func49
 ·exact Tryz.func95
noncomputable def base:T FF:=withFFs [(437,keysFF),(51,eqFF),(115,freshFF crc)] base1
theorem baseOK : ∀f ff,base.get f=some ff->FFok Tryz.prog f ff:=by
 refine withFFs_ok _ _ ?_ base1OK
 intro x hx
 simp only[List.mem_cons,List.not_mem_nil,or_false] at hx
 rcases hx with rfl|rfl|rfl
 ·exact keysFF_ok keys437
 ·exact eqFF_ok eq51
 ·exact crc_ok
end Go.Proofs.YtgpegjmbofgmmaaGreat.jouRun
namespace Go.Proofs.YtgpegjmbofgmmaaGreat.jouRun
def u8s (l:List Nat):List Value:=l.map fun n => .int .u8 (.ofNat n)
def u32s (l:List Nat):List Value:=l.map fun n => .int .u32 (.ofNat n)
def i64s (l:List Nat):List Value:=l.map fun n => .int .i64 (.ofNat n)
def q (n:Nat):Value := .int .i64 (.ofNat n)
def h (n:Nat):Value := .int .u32 (.ofNat n)
def y (n:Nat):Value := .int .u8 (.ofNat n)
def sl (b n c:Nat):Value := .slice (some ⟨b,0,none⟩) n c
def sn (b e n c:Nat):Value := .slice (some ⟨b,0,some e⟩) n c
end Go.Proofs.YtgpegjmbofgmmaaGreat.jouRun
