/- A part of the proof: KF4, KN4 -/
import Derived.Test.YtimfnccfnefajaaGreatDoorVKk
import Derived.Test.YtimfnccfnefajaaGreatDoorVKi
import Derived.Test.YtimfnccfnefajaaGreatDoorVEvJ
import Derived.Test.YtimfnccfnefajaaGreatDoorProg
import Derived.Test.YtimfnccfnefajaaGreatDoorRows
set_option linter.unusedSimpArgs false
set_option linter.unusedVariables false
namespace Go.Ev
open Go.Proofs
set_option maxRecDepth 100000
def clos4:List Nat:=[4,14,9,25,20,44,69,102,43,68,99,162,163,282,100,164,101,165,283,401,284,285,286,402,41,35,63,36,64,95,65,96,158,59,93,156,61,39,60,97,159,276,392,62,94,157,275,277,393,161,281,218,345,455,346,154,278,394,524,525,526,536,527,640,534,344,644,395,528,529,530,641,727,40,127,217,91,98,160,279,396,531,642,643,280,397,532,398,399,58,92,155,271,272,388,387,389,273,274,390,391,522,523,533,400,66,48,73,104,167,287,403,404,535,288,405,406,289,407,381,408,290,168,291,128,409,411,410,537,412,538,413,539,292,293,414,105,169,170,294,415,540,303,427,302,182,175,176,171,295,296,322,416,417,418,178,205,323,324,439,440,441,304,305,428,429,297,172,298,419,541,542,244,247,371,369,495,628,242,420,421,543,422,143,257,204,196,299,423,430,309,310,311,300,424,544,645,728,729,646,647,730,790,791,822,853,545,648,649,732,731,650,546,547,548,549,550,551,651,652,552,653,654,655,733,734,792,823,425,426,553,554,555,656,657,735,793,173,301,174,177,106,111,148,269,384,81,179,306,180,107,181,307,74,108,109,183,308,184,312,313,314,185,186,187,188,189,315,316,317,110,190,191,318,49,75,112,192,142,146,260,263,262,382,249,367,494,374,504,510,368,505,632,506,624,625,507,633,634,724,508,509,511,512,193,194,145,259,379,380,261,195,258,319,431,556,658,465,589,675,765,768,805,766,590,676,677,592,767,678,679,680,681,682,683,686,689,684,591,687,688,770,806,807,701,685,769,736,794,824,854,855,659,557,432,434,433,558,559,561,560,562,660,661,737,795,435,436,563,197,320,437,564,662,663,738,113,82,78,123,210,329,444,330,331,211,332,214,341,213,340,135,133,225,353,460,582,583,584,354,361,461,462,360,476,616,618,619,620,710,693,477,617,711,478,479,621,712,713,785,714,715,786,787,820,716,717,718,719,480,481,622,720,721,788,821,482,483,484,485,586,585,671,463,587,672,673,674,764,588,464,355,466,593,594,690,771,772,773,808,809,774,810,828,856,467,83,149,336,448,829,857,882,919,881,918,959,830,831,832,833,858,859,860,883,862,861,811,835,863,868,834,836,864,884,886,885,921,920,865,887,922,837,866,888,923,960,961,889,925,963,980,981,982,983,962,979,984,985,924,890,891,926,965,964,966,967,927,968,969,970,971,972,973,974,838,839,867,892,928,929,870,869,894,895,893,930,840,871,897,896,872,898,899,931,932,933,934,841,873,842,843,844,874,900,901,935,903,936,902,907,904,937,938,905,939,906,941,942,940,975,908,943,944,945,946,947,976,977,948,949,978,950,951,356,357,468,595,605,599,691,596,597,598,692,600,694,775,776,696,777,812,813,814,778,779,815,816,846,845,695,601,603,602,697,604,606,698,607,358,469,608,327,443,565,566,664,567,568,665,666,739,569,570,571,572,328,359,470,609,699,610,611,700,471,612,702,472,473,613,703,704,781,819,851,879,917,852,880,780,817,847,818,848,875,909,910,911,912,913,952,953,954,955,956,915,849,876,914,916,957,958,850,878,877,474,614,705,706,615,709,784,782,707,783,708,475,226,333,445,573,667,740,741,796,742,743,797,798,825,744,745,746,747,574,668,575,334,446,576,669,748,749,799,750,751,800,801,826,752,753,754,755,577,243,578,335,248,372,373,447,579,670,756,757,802,758,759,803,804,827,760,761,762,763,580,581,212,223,228,352,134,227,224,229,208,326,442,337,449,231,363,338,450,233,364,339,451,235,365,215,342,452,453,454,131,121,114,198,199,200,201,202,115,116,117,203,321,438,118,119,206,325,120,76,122,207,209,124,125,126,216,343,77,129,219,347,130,220,221,348,349,456,457,350,458,459,222,351,132,79,136,230,362,232,234,236,137,237,238,138,239,240,366,486,487,623,488,489,626,627,722,490,491,492,493,241,139,245,370,496,497,629,498,499,630,631,723,500,501,502,503,246,140,250,251,375,513,514,635,515,516,636,637,725,517,518,519,520,252,141,255,254,253,376,377,521,638,639,726,789,378,256,80,144,147,264,383,265,266,267,268,50,84,86,57,85,19,37,38,42,67,26,15,11,16,27,51,52,87,88,150,24,46,70,71,72,47,103,166,53,55,89,151,90,152,153,270,385,386,54,17,18,28,30,31,23,32,56,33,34]
def closR4:List Nat:=[34,33,56,32,23,31,30,28,18,17,54,386,385,270,153,152,90,151,89,55,53,166,103,47,72,71,70,46,24,150,88,87,52,51,27,16,11,15,26,67,42,38,37,19,85,57,86,84,50,268,267,266,265,383,264,147,144,80,256,378,789,726,639,638,521,377,376,253,254,255,141,252,520,519,518,517,725,637,636,516,515,635,514,513,375,251,250,140,246,503,502,501,500,723,631,630,499,498,629,497,496,370,245,139,241,493,492,491,490,722,627,626,489,488,623,487,486,366,240,239,138,238,237,137,236,234,232,362,230,136,79,132,351,222,459,458,350,457,456,349,348,221,220,130,347,219,129,77,343,216,126,125,124,209,207,122,76,120,325,206,119,118,438,321,203,117,116,115,202,201,200,199,198,114,121,131,454,453,452,342,215,365,235,451,339,364,233,450,338,363,231,449,337,442,326,208,229,224,227,134,352,228,223,212,581,580,763,762,761,760,827,804,803,759,758,802,757,756,670,579,447,373,372,248,335,578,243,577,755,754,753,752,826,801,800,751,750,799,749,748,669,576,446,334,575,668,574,747,746,745,744,825,798,797,743,742,796,741,740,667,573,445,333,226,475,708,783,707,782,784,709,615,706,705,614,474,877,878,850,958,957,916,914,876,849,915,956,955,954,953,952,913,912,911,910,909,875,848,818,847,817,780,880,852,917,879,851,819,781,704,703,613,473,472,702,612,471,700,611,610,699,609,470,359,328,572,571,570,569,739,666,665,568,567,664,566,565,443,327,608,469,358,607,698,606,604,697,602,603,601,695,845,846,816,815,779,778,814,813,812,777,696,776,775,694,600,692,598,597,596,691,599,605,595,468,357,356,951,950,978,949,948,977,976,947,946,945,944,943,908,975,940,942,941,906,939,905,938,937,904,907,902,936,903,935,901,900,874,844,843,842,873,841,934,933,932,931,899,898,872,896,897,871,840,930,893,895,894,869,870,929,928,892,867,839,838,974,973,972,971,970,969,968,927,967,966,964,965,926,891,890,924,985,984,979,962,983,982,981,980,963,925,889,961,960,923,888,866,837,922,887,865,920,921,885,886,884,864,836,834,868,863,835,811,861,862,883,860,859,858,833,832,831,830,959,918,881,919,882,857,829,448,336,149,83,467,856,828,810,774,809,808,773,772,771,690,594,593,466,355,464,588,764,674,673,672,587,463,671,585,586,485,484,483,482,821,788,721,720,622,481,480,719,718,717,716,820,787,786,715,714,785,713,712,621,479,478,711,617,477,693,710,620,619,618,616,476,360,462,461,361,354,584,583,582,460,353,225,133,135,340,213,341,214,332,211,331,330,444,329,210,123,78,82,113,738,663,662,564,437,320,197,563,436,435,795,737,661,660,562,560,561,559,558,433,434,432,557,659,855,854,824,794,736,769,685,701,807,806,770,688,687,591,684,689,686,683,682,681,680,679,678,767,592,677,676,590,766,805,768,765,675,589,465,658,556,431,319,258,195,261,380,379,259,145,194,193,512,511,509,508,724,634,633,507,625,624,506,632,505,368,510,504,374,494,367,249,382,262,263,260,146,142,192,112,75,49,318,191,190,110,317,316,315,189,188,187,186,185,314,313,312,184,308,183,109,108,74,307,181,107,180,306,179,81,384,269,148,111,106,177,174,301,173,793,735,657,656,555,554,553,426,425,823,792,734,733,655,654,653,552,652,651,551,550,549,548,547,546,650,731,732,649,648,545,853,822,791,790,730,647,646,729,728,645,544,424,300,311,310,309,430,423,299,196,204,257,143,422,543,421,420,242,628,495,369,371,247,244,542,541,419,298,172,297,429,428,305,304,441,440,439,324,323,205,178,418,417,416,322,296,295,171,176,175,182,302,427,303,540,415,294,170,169,105,414,293,292,539,413,538,412,537,410,411,409,128,291,168,290,408,381,407,289,406,405,288,535,404,403,287,167,104,73,48,66,400,533,523,522,391,390,274,273,389,387,388,272,271,155,92,58,399,398,532,397,280,643,642,531,396,279,160,98,91,217,127,40,727,641,530,529,528,395,644,344,534,640,527,536,526,525,524,394,278,154,346,455,345,218,281,161,393,277,275,157,94,62,392,276,159,97,60,39,61,156,93,59,158,96,65,95,64,36,63,35,41,402,286,285,284,401,283,165,101,164,100,282,163,162,99,68,43,102,69,44,20,25,9,14,4]
theorem closT4:cloT (tabOf ltabs) 3391 [4] 0 []=closR4:=by kernel_rfl
theorem clos4_rev:closR4.reverse=clos4:=by kernel_rfl
theorem clos4_eq:Tryz.prog.closure 4=clos4:=by
 rw [closure_eq (tabOf_eq ltabs_eq) fuelOk closT4,clos4_rev]
end Go.Ev
namespace Go.Proofs.YtimfnccfnefajaaGreatDoor
open Go Go.Ev
set_option maxRecDepth 100000
theorem goes4:Tryz.prog.goes 4=false:=by
 unfold Program.goes
 have h1:((Tryz.prog.closure 4).any fun g=>(Tryz.prog.funcs[g]?).any Func.goes)=false:=by
  rw [List.any_eq_false]
  intro g _
  cases hg:Tryz.prog.funcs[g]? with
  | none=>simp
  | some fn =>
   have:=goes_none fn (List.mem_of_getElem? (by rw [Array.getElem?_toList];exact hg))
   simp [this]
 have h2:Tryz.prog.funcs.any Func.goes=false:=by
  rw [← Array.any_toList,List.any_eq_false]
  intro fn hfn
  rw [goes_none fn hfn]
  exact Bool.false_ne_true
 rw [h1,h2,Bool.and_false,Bool.or_false]
theorem inP4_eq:clos4.filterMap inP=Rows.scriptFormatsUptoRow.inPlace:=by kernel_rfl
theorem inPlace4:Tryz.prog.inPlace 4=Rows.scriptFormatsUptoRow.inPlace:=by
 rw [← inP4_eq]
 unfold Program.inPlace
 rw [clos4_eq]
 congr 1
 funext g
 unfold inP
 cases hg:Tryz.prog.funcs[g]? with
 | none=>rfl
 | some fn =>
  have hm:fn∈Tryz.prog.funcs.toList:=List.mem_of_getElem? (by rw [Array.getElem?_toList];exact hg)
  have:=(lall_iff _ _).1 nums fn hm
  rw [bnot_eq,Bool.not_eq_true'] at this
  have this:(fn.name == "runtime.NumGoroutine")=false:=this
  simp only [Option.bind_some,this,Bool.or_false]
theorem unf4:Tryz.prog.unfollowed 4=true:=by
 unfold Program.unfollowed
 rw [clos4_eq]
 kernel_rfl
theorem rec4:Tryz.prog.recurses 4=true:=by
 unfold Program.recurses
 rw [unf4]
 rfl
theorem named4a:(((clos4.flatMap (tabOf gtabs)).eraseDups.filterMap fun g=>(Tryz.prog.globals[g]?).map (·.name)) ++ clos4.filterMap fun g=>(Tryz.prog.funcs[g]?).bind fun fn=>if fn.body.isNone then entryReads.lookup fn.name else Option.none).eraseDups=Rows.scriptFormatsUptoRow.named:=by kernel_rfl
theorem named4:Tryz.prog.varsNamed 4=Rows.scriptFormatsUptoRow.named:=by
 rw [← named4a]
 unfold Program.varsNamed
 rw [clos4_eq]
 have h:(clos4.flatMap fun g=>((Tryz.prog.funcs[g]?).bind (·.body)).elim [] Code.globalsNamed)=clos4.flatMap (tabOf gtabs):=by
  congr 1
  funext g
  exact gtab_at g
 rw [h]
theorem fb4_1:Rows.scriptFormatsUptoRow.wf (OpenSpec.ofChange (Rows.OpenSpec.upto Rows.scriptFormatsSpec).bare)=true:=by kernel_rfl
theorem fb4_2:laidOutB Tryz.prog=true:=laidOut_all
theorem fb4_3:mapsRowed Tryz.prog=true:=mapsRowed_all
theorem fb4_4:Tryz.f4.params.all (Tryz.prog.readableRec ·)=true:=by kernel_rfl
theorem fb4_5:namedTie Tryz.prog Rows.scriptFormatsUptoRow.named (Rows.OpenSpec.upto Rows.scriptFormatsSpec).bare.vars=true:=by kernel_rfl
theorem fb4_6:(Rows.scriptFormatsUptoRow.stops == [])=true:=by kernel_rfl
theorem fb4_7:(Tryz.prog.stops == [])=true:=by rw [stops_nil];rfl
theorem fb4_8:(Rows.scriptFormatsUptoRow.knobs == [])=true:=by kernel_rfl
theorem fb4_9:(Tryz.prog.stopKnobs == [])=true:=by rw [stopKnobs_nil];rfl
theorem fb4_10:(Rows.scriptFormatsUptoRow.inPlace == Tryz.prog.inPlace 4)=true:=by rw [inPlace4];exact beq_self_eq_true _
theorem fb4_11:(Rows.scriptFormatsUptoRow.unfollowed == Tryz.prog.unfollowed 4)=true:=by rw [unf4];rfl
theorem fb4_12:(Rows.scriptFormatsUptoRow.recurses == Tryz.prog.recurses 4)=true:=by rw [rec4];rfl
theorem fb4_13:(Rows.scriptFormatsUptoRow.named == Tryz.prog.varsNamed 4)=true:=by rw [named4];exact beq_self_eq_true _
theorem fb4_14:(Rows.scriptFormatsUptoRow.maps == (Tryz.f4.params.toList ++ (Rows.OpenSpec.upto Rows.scriptFormatsSpec).bare.plain.varTypes Tryz.prog).any (Tryz.prog.mapsRec ·))=true:=by kernel_rfl
theorem fb4_15:(Rows.scriptFormatsUptoRow.ifaces == (Tryz.f4.params.toList ++ (Rows.OpenSpec.upto Rows.scriptFormatsSpec).bare.plain.varTypes Tryz.prog).any (Tryz.prog.ifacesRec ·))=true:=by kernel_rfl
theorem fb4_16:(Rows.scriptFormatsUptoRow.mapsOut == Tryz.prog.mapsAmong Tryz.f4.resultTypes.toList)=true:=by kernel_rfl
theorem fb4_17:(Rows.scriptFormatsUptoRow.loops == (Tryz.f4.params.toList ++ (Rows.OpenSpec.upto Rows.scriptFormatsSpec).bare.plain.varTypes Tryz.prog).any (Tryz.prog.loopsFrom ·))=true:=by kernel_rfl
theorem fb4_18:(Rows.scriptFormatsUptoRow.wideKeys == (Tryz.f4.params.toList ++ (Rows.OpenSpec.upto Rows.scriptFormatsSpec).bare.plain.varTypes Tryz.prog ++ Tryz.f4.resultTypes.toList).any (Tryz.prog.wideKeysFrom ·))=true:=by kernel_rfl
theorem fb4_19:(Rows.OpenSpec.upto Rows.scriptFormatsSpec).bare.vars.all (Tryz.prog.varReadable ·)=true:=by kernel_rfl
theorem fb4_20:Tryz.f4.resultTypes.all (fun t=>Tryz.prog.readableRec t && decide (t<Tryz.prog.types.size))=true:=by kernel_rfl
theorem fb4_21:(Rows.scriptFormatsUptoRow.ifacesOut == Tryz.f4.resultTypes.toList.any (Tryz.prog.ifacesRec ·))=true:=by kernel_rfl
theorem fb4_22:(Rows.scriptFormatsUptoRow.loopsOut == Tryz.f4.resultTypes.toList.any (Tryz.prog.loopsFrom ·))=true:=by kernel_rfl
theorem fb4_23:(Rows.scriptFormatsUptoRow.plainKeys == Tryz.prog.plainKeys)=true:=by kernel_rfl
theorem fb4_24:Rows.scriptFormatsUptoRow.shortTexts.isNone=true:=by kernel_rfl
theorem fb4_25:Tryz.prog.stopsHeard=true:=stopsHeard_all
theorem fb4_26:Tryz.prog.mayEnter=true:=mayEnter_yes
theorem fb4_27:(Rows.scriptFormatsUptoRow.lifted == Tryz.prog.liftsFinal)=true:=by kernel_rfl
theorem fb4_28:(Tryz.prog.make == some Rows.scriptFormatsUptoRow.make)=true:=by kernel_rfl
theorem fb4_30:(Rows.scriptFormatsUptoRow.pinned == Rows.scriptFormatsUptoRow.pinnedBy)=true:=by kernel_rfl
theorem fb4_31:(Rows.scriptFormatsUptoRow.veiled == (Tryz.f4.params.toList ++ (Rows.OpenSpec.upto Rows.scriptFormatsSpec).bare.plain.varTypes Tryz.prog ++ Tryz.f4.resultTypes.toList).any (Tryz.prog.veiledRec ·))=true:=by kernel_rfl
theorem fb4_32:Rows.scriptFormatsUptoRow.veiledFits Tryz.prog Tryz.f4.params.toList (Tryz.f4.params.toList ++ (Rows.OpenSpec.upto Rows.scriptFormatsSpec).bare.plain.varTypes Tryz.prog ++ Tryz.f4.resultTypes.toList)=true:=by kernel_rfl
theorem closed4:joinedFacts Tryz.prog 4 Tryz.f4 (Rows.OpenSpec.upto Rows.scriptFormatsSpec).bare Rows.scriptFormatsUptoRow=true:=by
 unfold joinedFacts
 rw [fb4_1,fb4_2,fb4_3,fb4_4,fb4_5,fb4_6,fb4_7,fb4_8,fb4_9,fb4_10,fb4_11,fb4_12,fb4_13,fb4_14,fb4_15,fb4_16,fb4_17,fb4_18,fb4_19,fb4_20,fb4_21,fb4_22,fb4_23,fb4_24,fb4_25,fb4_26,fb4_27,fb4_28,fb4_30,fb4_31,fb4_32]
 rfl
end Go.Proofs.YtimfnccfnefajaaGreatDoor
namespace Go.Proofs.YtimfnccfnefajaaGreatDoor
open Go Go.Ev
set_option maxRecDepth 100000
theorem nm4_a:(Tryz.f4.name == Rows.scriptFormatsUptoRow.func)=true:=by kernel_rfl
theorem nm4_b:lall (fun f:Func=>bnot (f.name == Rows.scriptFormatsUptoRow.func)) (ltake 4 Tryz.prog.funcs.toList)=true:=by kernel_rfl
theorem nm4_c0:lall (fun f:Func=>bnot (f.name == Rows.scriptFormatsUptoRow.func)) (chunk (ldrop (Nat.succ 4) Tryz.prog.funcs.toList) 130 0)=true:=by kernel_rfl
theorem nm4_c1:lall (fun f:Func=>bnot (f.name == Rows.scriptFormatsUptoRow.func)) (chunk (ldrop (Nat.succ 4) Tryz.prog.funcs.toList) 130 1)=true:=by kernel_rfl
theorem nm4_c2:lall (fun f:Func=>bnot (f.name == Rows.scriptFormatsUptoRow.func)) (chunk (ldrop (Nat.succ 4) Tryz.prog.funcs.toList) 130 2)=true:=by kernel_rfl
theorem nm4_c3:lall (fun f:Func=>bnot (f.name == Rows.scriptFormatsUptoRow.func)) (chunk (ldrop (Nat.succ 4) Tryz.prog.funcs.toList) 130 3)=true:=by kernel_rfl
theorem nm4_c4:lall (fun f:Func=>bnot (f.name == Rows.scriptFormatsUptoRow.func)) (chunk (ldrop (Nat.succ 4) Tryz.prog.funcs.toList) 130 4)=true:=by kernel_rfl
theorem nm4_c5:lall (fun f:Func=>bnot (f.name == Rows.scriptFormatsUptoRow.func)) (chunk (ldrop (Nat.succ 4) Tryz.prog.funcs.toList) 130 5)=true:=by kernel_rfl
theorem nm4_c6:lall (fun f:Func=>bnot (f.name == Rows.scriptFormatsUptoRow.func)) (chunk (ldrop (Nat.succ 4) Tryz.prog.funcs.toList) 130 6)=true:=by kernel_rfl
theorem nm4_c7:lall (fun f:Func=>bnot (f.name == Rows.scriptFormatsUptoRow.func)) (chunk (ldrop (Nat.succ 4) Tryz.prog.funcs.toList) 130 7)=true:=by kernel_rfl
theorem named4':Tryz.prog.funcNamed Rows.scriptFormatsUptoRow.func=some 4:=by
 refine funcNamed_of (n:=130) (m:=8) (by decide) Tryz.func4 nm4_a nm4_b (fun j hj=>?_) (Nat.le_trans fLe (by decide))
 match j,hj with
 | 0,_=>exact nm4_c0
 | 1,_=>exact nm4_c1
 | 2,_=>exact nm4_c2
 | 3,_=>exact nm4_c3
 | 4,_=>exact nm4_c4
 | 5,_=>exact nm4_c5
 | 6,_=>exact nm4_c6
 | 7,_=>exact nm4_c7
 | n+8,h=>omega
end Go.Proofs.YtimfnccfnefajaaGreatDoor
